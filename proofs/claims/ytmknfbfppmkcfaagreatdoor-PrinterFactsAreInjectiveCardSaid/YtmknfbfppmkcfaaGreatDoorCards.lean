/-
  DERIVED. GIVEN WITH THE SEED: THE CARDS: each row of YtmknfbfppmkcfaaGreatDoorRows.lean that lists a variable, with what it lists TIED to the program's text (the seventh form; the later family's looks); each row that meets fmt, with fmt's text TOLD by the authors' own Lean function (tested against real Go, not proved from fmt's source: count such statements apart). THE CARD IS WHAT COUNTS. Prove the row's statement (the work); the ties are given (YtmknfbfppmkcfaaGreatDoorTie.lean); close each card by the builder's one call (the guide's Derived/Test/ToyasCard.lean, 'card_holds'). Laid BY PROGRAM, IN A SANDBOX (cutbox-door.mjs). By AI agents, Wed Nov 11 2026. No macro, syntax, notation, axiom, sorry.
-/
import Derived.Test.YtmknfbfppmkcfaaGreatDoorRows
import GoSem.ClaimSeven
namespace Go.Proofs.YtmknfbfppmkcfaaGreatDoor
namespace Rows

/-- THE TIED CARD OF 'mirtowerlaw20.PrinterMatchesReference'. -/
def printerMatchesReferenceCard : Claim7 := { stood := { row := printerMatchesReferenceRow, standIns := [], harness := (true, "2565a398a9c3f64ed2b3d35e70614e8afda13dca12037df6a6fb8dd6ed235492"), looks := false }, kinds := [], alts := [], laidByText := true, laidKinds := [.data, .data, .data, .data, .listed, .data, .widerDeep, .widerDeep, .pinned], laidTests := true, laidLooks := .later }
def PrinterMatchesReferenceCardSaid : Prop := Claim7.holds Tryz.pinned (.plain (OpenSpec.ofChange printerMatchesReferenceSpec)) printerMatchesReferenceCard

/-- THE TIED CARD OF 'mirtowerlaw20.PrinterFacts'. -/
def printerFactsCard : Claim7 := { stood := { row := printerFactsRow, standIns := [], harness := (true, "2565a398a9c3f64ed2b3d35e70614e8afda13dca12037df6a6fb8dd6ed235492"), looks := false }, kinds := [], alts := [], laidByText := true, laidKinds := [.data, .data, .data, .data, .listed, .data, .widerDeep, .widerDeep, .pinned], laidTests := true, laidLooks := .later }
def PrinterFactsCardSaid : Prop := Claim7.holds Tryz.pinned (.plain (OpenSpec.ofChange printerFactsSpec)) printerFactsCard

/-- THE TIED CARD OF 'mirtowerlaw20.PrinterPlaces'. -/
def printerPlacesCard : Claim7 := { stood := { row := printerPlacesRow, standIns := [], harness := (true, "2565a398a9c3f64ed2b3d35e70614e8afda13dca12037df6a6fb8dd6ed235492"), looks := false }, kinds := [], alts := [], laidByText := true, laidKinds := [.data, .data, .data, .data, .listed, .data, .widerDeep, .widerDeep, .pinned], laidTests := true, laidLooks := .later }
def PrinterPlacesCardSaid : Prop := Claim7.holds Tryz.pinned (.plain (OpenSpec.ofChange printerPlacesSpec)) printerPlacesCard

/-- THE TIED CARD OF 'mirtowerlaw20.PrinterIsInjective'. -/
def printerIsInjectiveCard : Claim7 := { stood := { row := printerIsInjectiveRow, standIns := [], harness := (true, "2565a398a9c3f64ed2b3d35e70614e8afda13dca12037df6a6fb8dd6ed235492"), looks := false }, kinds := [], alts := [], laidByText := true, laidKinds := [.data, .data, .data, .data, .listed, .data, .widerDeep, .widerDeep, .pinned], laidTests := true, laidLooks := .later }
def PrinterIsInjectiveCardSaid : Prop := Claim7.holds Tryz.pinned (.plain (OpenSpec.ofChange printerIsInjectiveSpec)) printerIsInjectiveCard

/-- THE TIED CARD OF 'mirtowerlaw20.PrinterFactsAreInjective'. -/
def printerFactsAreInjectiveCard : Claim7 := { stood := { row := printerFactsAreInjectiveRow, standIns := [], harness := (true, "2565a398a9c3f64ed2b3d35e70614e8afda13dca12037df6a6fb8dd6ed235492"), looks := false }, kinds := [], alts := [], laidByText := true, laidKinds := [.data, .data, .data, .data, .listed, .data, .widerDeep, .widerDeep, .pinned], laidTests := true, laidLooks := .later }
def PrinterFactsAreInjectiveCardSaid : Prop := Claim7.holds Tryz.pinned (.plain (OpenSpec.ofChange printerFactsAreInjectiveSpec)) printerFactsAreInjectiveCard

/-- THE SECOND FORM's CARD OF 'mirtowerlaw20.PrinterMatchesReference'. -/
def printerMatchesReferenceUptoCard : Claim7 := { stood := { row := printerMatchesReferenceUptoRow, standIns := [], harness := (true, "2565a398a9c3f64ed2b3d35e70614e8afda13dca12037df6a6fb8dd6ed235492"), looks := false }, kinds := [], alts := [], laidByText := true, laidKinds := [.data, .data, .data, .data, .listed, .data, .widerDeep, .widerDeep, .pinned], laidTests := true, laidLooks := .later }
def PrinterMatchesReferenceUptoCardSaid : Prop := Claim7.holds Tryz.pinned (.plain (OpenSpec.upto printerMatchesReferenceSpec)) printerMatchesReferenceUptoCard

/-- THE SECOND FORM's CARD OF 'mirtowerlaw20.PrinterFacts'. -/
def printerFactsUptoCard : Claim7 := { stood := { row := printerFactsUptoRow, standIns := [], harness := (true, "2565a398a9c3f64ed2b3d35e70614e8afda13dca12037df6a6fb8dd6ed235492"), looks := false }, kinds := [], alts := [], laidByText := true, laidKinds := [.data, .data, .data, .data, .listed, .data, .widerDeep, .widerDeep, .pinned], laidTests := true, laidLooks := .later }
def PrinterFactsUptoCardSaid : Prop := Claim7.holds Tryz.pinned (.plain (OpenSpec.upto printerFactsSpec)) printerFactsUptoCard

/-- THE SECOND FORM's CARD OF 'mirtowerlaw20.PrinterPlaces'. -/
def printerPlacesUptoCard : Claim7 := { stood := { row := printerPlacesUptoRow, standIns := [], harness := (true, "2565a398a9c3f64ed2b3d35e70614e8afda13dca12037df6a6fb8dd6ed235492"), looks := false }, kinds := [], alts := [], laidByText := true, laidKinds := [.data, .data, .data, .data, .listed, .data, .widerDeep, .widerDeep, .pinned], laidTests := true, laidLooks := .later }
def PrinterPlacesUptoCardSaid : Prop := Claim7.holds Tryz.pinned (.plain (OpenSpec.upto printerPlacesSpec)) printerPlacesUptoCard

/-- THE SECOND FORM's CARD OF 'mirtowerlaw20.PrinterIsInjective'. -/
def printerIsInjectiveUptoCard : Claim7 := { stood := { row := printerIsInjectiveUptoRow, standIns := [], harness := (true, "2565a398a9c3f64ed2b3d35e70614e8afda13dca12037df6a6fb8dd6ed235492"), looks := false }, kinds := [], alts := [], laidByText := true, laidKinds := [.data, .data, .data, .data, .listed, .data, .widerDeep, .widerDeep, .pinned], laidTests := true, laidLooks := .later }
def PrinterIsInjectiveUptoCardSaid : Prop := Claim7.holds Tryz.pinned (.plain (OpenSpec.upto printerIsInjectiveSpec)) printerIsInjectiveUptoCard

/-- THE SECOND FORM's CARD OF 'mirtowerlaw20.PrinterFactsAreInjective'. -/
def printerFactsAreInjectiveUptoCard : Claim7 := { stood := { row := printerFactsAreInjectiveUptoRow, standIns := [], harness := (true, "2565a398a9c3f64ed2b3d35e70614e8afda13dca12037df6a6fb8dd6ed235492"), looks := false }, kinds := [], alts := [], laidByText := true, laidKinds := [.data, .data, .data, .data, .listed, .data, .widerDeep, .widerDeep, .pinned], laidTests := true, laidLooks := .later }
def PrinterFactsAreInjectiveUptoCardSaid : Prop := Claim7.holds Tryz.pinned (.plain (OpenSpec.upto printerFactsAreInjectiveSpec)) printerFactsAreInjectiveUptoCard
end Rows
end Go.Proofs.YtmknfbfppmkcfaaGreatDoor
