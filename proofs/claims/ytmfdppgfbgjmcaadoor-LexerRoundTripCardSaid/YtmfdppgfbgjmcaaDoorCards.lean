/-
  DERIVED. GIVEN WITH THE SEED: THE CARDS: each row of YtmfdppgfbgjmcaaDoorRows.lean that lists a variable, with what it lists TIED to the program's text (the seventh form; the later family's looks); each row that meets fmt, with fmt's text TOLD by the authors' own Lean function (tested against real Go, not proved from fmt's source: count such statements apart). THE CARD IS WHAT COUNTS. Prove the row's statement (the work); the ties are given (YtmfdppgfbgjmcaaDoorTie.lean); close each card by the builder's one call (the guide's Derived/Test/ToyasCard.lean, 'card_holds'). Laid BY PROGRAM, IN A SANDBOX (cutbox-door.mjs). By AI agents, Wed Nov 11 2026. No macro, syntax, notation, axiom, sorry.
-/
import Derived.Test.YtmfdppgfbgjmcaaDoorRows
import GoSem.ClaimSeven
namespace Go.Proofs.YtmfdppgfbgjmcaaDoor
namespace Rows

/-- THE TIED CARD OF 'mirtowerlaw19.LexerOffsets'. -/
def lexerOffsetsCard : Claim7 := { stood := { row := lexerOffsetsRow, standIns := [], harness := (true, "e4c5caf7ea25ecb8fa6ed516f00ebb7bab913bdcde2e283ff64653f4fd2eaf75"), looks := true }, kinds := [], alts := [], laidByText := true, laidKinds := [.data, .data, .data, .sentinel, .sentinel], laidTests := true, laidLooks := .later }
def LexerOffsetsCardSaid : Prop := Claim7.holds Tryd.pinned (.plain (OpenSpec.ofChange lexerOffsetsSpec)) lexerOffsetsCard

/-- THE TIED CARD OF 'mirtowerlaw19.LexerConcatenation'. -/
def lexerConcatenationCard : Claim7 := { stood := { row := lexerConcatenationRow, standIns := [], harness := (true, "e4c5caf7ea25ecb8fa6ed516f00ebb7bab913bdcde2e283ff64653f4fd2eaf75"), looks := true }, kinds := [], alts := [], laidByText := true, laidKinds := [.data, .data, .data, .sentinel, .sentinel], laidTests := true, laidLooks := .later }
def LexerConcatenationCardSaid : Prop := Claim7.holds Tryd.pinned (.plain (OpenSpec.ofChange lexerConcatenationSpec)) lexerConcatenationCard

/-- THE TIED CARD OF 'mirtowerlaw19.LexerRoundTrip'. -/
def lexerRoundTripCard : Claim7 := { stood := { row := lexerRoundTripRow, standIns := [], harness := (true, "e4c5caf7ea25ecb8fa6ed516f00ebb7bab913bdcde2e283ff64653f4fd2eaf75"), looks := true }, kinds := [], alts := [], laidByText := true, laidKinds := [.data, .data, .data, .sentinel, .sentinel], laidTests := true, laidLooks := .later }
def LexerRoundTripCardSaid : Prop := Claim7.holds Tryd.pinned (.plain (OpenSpec.ofChange lexerRoundTripSpec)) lexerRoundTripCard

/-- THE TIED CARD OF 'mirtowerlaw19.LexerSpaces'. -/
def lexerSpacesCard : Claim7 := { stood := { row := lexerSpacesRow, standIns := [], harness := (true, "e4c5caf7ea25ecb8fa6ed516f00ebb7bab913bdcde2e283ff64653f4fd2eaf75"), looks := true }, kinds := [], alts := [], laidByText := true, laidKinds := [.data, .data, .data, .sentinel, .sentinel], laidTests := true, laidLooks := .later }
def LexerSpacesCardSaid : Prop := Claim7.holds Tryd.pinned (.plain (OpenSpec.ofChange lexerSpacesSpec)) lexerSpacesCard

/-- THE SECOND FORM's CARD OF 'mirtowerlaw19.LexerOffsets'. -/
def lexerOffsetsUptoCard : Claim7 := { stood := { row := lexerOffsetsUptoRow, standIns := [], harness := (true, "e4c5caf7ea25ecb8fa6ed516f00ebb7bab913bdcde2e283ff64653f4fd2eaf75"), looks := true }, kinds := [], alts := [], laidByText := true, laidKinds := [.data, .data, .data, .sentinel, .sentinel], laidTests := true, laidLooks := .later }
def LexerOffsetsUptoCardSaid : Prop := Claim7.holds Tryd.pinned (.plain (OpenSpec.upto lexerOffsetsSpec)) lexerOffsetsUptoCard

/-- THE SECOND FORM's CARD OF 'mirtowerlaw19.LexerConcatenation'. -/
def lexerConcatenationUptoCard : Claim7 := { stood := { row := lexerConcatenationUptoRow, standIns := [], harness := (true, "e4c5caf7ea25ecb8fa6ed516f00ebb7bab913bdcde2e283ff64653f4fd2eaf75"), looks := true }, kinds := [], alts := [], laidByText := true, laidKinds := [.data, .data, .data, .sentinel, .sentinel], laidTests := true, laidLooks := .later }
def LexerConcatenationUptoCardSaid : Prop := Claim7.holds Tryd.pinned (.plain (OpenSpec.upto lexerConcatenationSpec)) lexerConcatenationUptoCard

/-- THE SECOND FORM's CARD OF 'mirtowerlaw19.LexerRoundTrip'. -/
def lexerRoundTripUptoCard : Claim7 := { stood := { row := lexerRoundTripUptoRow, standIns := [], harness := (true, "e4c5caf7ea25ecb8fa6ed516f00ebb7bab913bdcde2e283ff64653f4fd2eaf75"), looks := true }, kinds := [], alts := [], laidByText := true, laidKinds := [.data, .data, .data, .sentinel, .sentinel], laidTests := true, laidLooks := .later }
def LexerRoundTripUptoCardSaid : Prop := Claim7.holds Tryd.pinned (.plain (OpenSpec.upto lexerRoundTripSpec)) lexerRoundTripUptoCard

/-- THE SECOND FORM's CARD OF 'mirtowerlaw19.LexerSpaces'. -/
def lexerSpacesUptoCard : Claim7 := { stood := { row := lexerSpacesUptoRow, standIns := [], harness := (true, "e4c5caf7ea25ecb8fa6ed516f00ebb7bab913bdcde2e283ff64653f4fd2eaf75"), looks := true }, kinds := [], alts := [], laidByText := true, laidKinds := [.data, .data, .data, .sentinel, .sentinel], laidTests := true, laidLooks := .later }
def LexerSpacesUptoCardSaid : Prop := Claim7.holds Tryd.pinned (.plain (OpenSpec.upto lexerSpacesSpec)) lexerSpacesUptoCard
end Rows
end Go.Proofs.YtmfdppgfbgjmcaaDoor
