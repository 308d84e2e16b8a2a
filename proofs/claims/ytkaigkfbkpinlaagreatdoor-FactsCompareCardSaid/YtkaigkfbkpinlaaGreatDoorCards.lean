/-
  DERIVED. GIVEN WITH THE SEED: THE CARDS: each row of YtkaigkfbkpinlaaGreatDoorRows.lean that lists a variable, with what it lists TIED to the program's text (the seventh form; the later family's looks); each row that meets fmt, with fmt's text TOLD by the authors' own Lean function (tested against real Go, not proved from fmt's source: count such statements apart). THE CARD IS WHAT COUNTS. Prove the row's statement (the work); the ties are given (YtkaigkfbkpinlaaGreatDoorTie.lean); close each card by the builder's one call (the guide's Derived/Test/ToyasCard.lean, 'card_holds'). Laid BY PROGRAM, IN A SANDBOX (cutbox-door.mjs). By AI agents, Wed Nov 11 2026. No macro, syntax, notation, axiom, sorry.
-/
import Derived.Test.YtkaigkfbkpinlaaGreatDoorRows
import GoSem.ClaimSeven
namespace Go.Proofs.YtkaigkfbkpinlaaGreatDoor
namespace Rows

/-- THE TIED CARD OF 'mirtowerlaw14.FactsCheck'. -/
def factsCheckCard : Claim7 := { stood := { row := factsCheckRow, standIns := [], harness := (true, "6518f6fc3daf74643f48fddcae068f674ba94daf43cde20ff8f8b6a60d5b26e4"), looks := false }, kinds := [], alts := [], laidByText := true, laidKinds := [.data, .widerDeep, .widerDeep, .pinned], laidTests := true, laidLooks := .later }
def FactsCheckCardSaid : Prop := Claim7.holds Tryz.pinned (.plain (OpenSpec.ofChange factsCheckSpec)) factsCheckCard

/-- THE TIED CARD OF 'mirtowerlaw14.FactsCompare'. -/
def factsCompareCard : Claim7 := { stood := { row := factsCompareRow, standIns := [], harness := (true, "6518f6fc3daf74643f48fddcae068f674ba94daf43cde20ff8f8b6a60d5b26e4"), looks := false }, kinds := [], alts := [], laidByText := true, laidKinds := [.data, .widerDeep, .widerDeep, .pinned], laidTests := true, laidLooks := .later }
def FactsCompareCardSaid : Prop := Claim7.holds Tryz.pinned (.plain (OpenSpec.ofChange factsCompareSpec)) factsCompareCard

/-- THE TIED CARD OF 'mirtowerlaw14.FactsClone'. -/
def factsCloneCard : Claim7 := { stood := { row := factsCloneRow, standIns := [], harness := (true, "6518f6fc3daf74643f48fddcae068f674ba94daf43cde20ff8f8b6a60d5b26e4"), looks := false }, kinds := [], alts := [], laidByText := true, laidKinds := [.data, .widerDeep, .widerDeep, .pinned], laidTests := true, laidLooks := .later }
def FactsCloneCardSaid : Prop := Claim7.holds Tryz.pinned (.plain (OpenSpec.ofChange factsCloneSpec)) factsCloneCard

/-- THE TIED CARD OF 'mirtowerlaw15.LoansMatchReference'. -/
def loansMatchReferenceCard : Claim7 := { stood := { row := loansMatchReferenceRow, standIns := [], harness := (true, "6518f6fc3daf74643f48fddcae068f674ba94daf43cde20ff8f8b6a60d5b26e4"), looks := false }, kinds := [], alts := [], laidByText := true, laidKinds := [.data, .widerDeep, .widerDeep, .pinned], laidTests := true, laidLooks := .later }
def LoansMatchReferenceCardSaid : Prop := Claim7.holds Tryz.pinned (.plain (OpenSpec.ofChange loansMatchReferenceSpec)) loansMatchReferenceCard

/-- THE TIED CARD OF 'mirtowerlaw15.LoansEquations'. -/
def loansEquationsCard : Claim7 := { stood := { row := loansEquationsRow, standIns := [], harness := (true, "6518f6fc3daf74643f48fddcae068f674ba94daf43cde20ff8f8b6a60d5b26e4"), looks := false }, kinds := [], alts := [], laidByText := true, laidKinds := [.data, .widerDeep, .widerDeep, .pinned], laidTests := true, laidLooks := .later }
def LoansEquationsCardSaid : Prop := Claim7.holds Tryz.pinned (.plain (OpenSpec.ofChange loansEquationsSpec)) loansEquationsCard

/-- THE TIED CARD OF 'mirtowerlaw15.LoansWitness'. -/
def loansWitnessCard : Claim7 := { stood := { row := loansWitnessRow, standIns := [], harness := (true, "6518f6fc3daf74643f48fddcae068f674ba94daf43cde20ff8f8b6a60d5b26e4"), looks := false }, kinds := [], alts := [], laidByText := true, laidKinds := [.data, .widerDeep, .widerDeep, .pinned], laidTests := true, laidLooks := .later }
def LoansWitnessCardSaid : Prop := Claim7.holds Tryz.pinned (.plain (OpenSpec.ofChange loansWitnessSpec)) loansWitnessCard

/-- THE TIED CARD OF 'mirtowerlaw15.LoansMonotone'. -/
def loansMonotoneCard : Claim7 := { stood := { row := loansMonotoneRow, standIns := [], harness := (true, "6518f6fc3daf74643f48fddcae068f674ba94daf43cde20ff8f8b6a60d5b26e4"), looks := false }, kinds := [], alts := [], laidByText := true, laidKinds := [.data, .widerDeep, .widerDeep, .pinned], laidTests := true, laidLooks := .later }
def LoansMonotoneCardSaid : Prop := Claim7.holds Tryz.pinned (.plain (OpenSpec.ofChange loansMonotoneSpec)) loansMonotoneCard

/-- THE SECOND FORM's CARD OF 'mirtowerlaw14.FactsCheck'. -/
def factsCheckUptoCard : Claim7 := { stood := { row := factsCheckUptoRow, standIns := [], harness := (true, "6518f6fc3daf74643f48fddcae068f674ba94daf43cde20ff8f8b6a60d5b26e4"), looks := false }, kinds := [], alts := [], laidByText := true, laidKinds := [.data, .widerDeep, .widerDeep, .pinned], laidTests := true, laidLooks := .later }
def FactsCheckUptoCardSaid : Prop := Claim7.holds Tryz.pinned (.plain (OpenSpec.upto factsCheckSpec)) factsCheckUptoCard

/-- THE SECOND FORM's CARD OF 'mirtowerlaw14.FactsCompare'. -/
def factsCompareUptoCard : Claim7 := { stood := { row := factsCompareUptoRow, standIns := [], harness := (true, "6518f6fc3daf74643f48fddcae068f674ba94daf43cde20ff8f8b6a60d5b26e4"), looks := false }, kinds := [], alts := [], laidByText := true, laidKinds := [.data, .widerDeep, .widerDeep, .pinned], laidTests := true, laidLooks := .later }
def FactsCompareUptoCardSaid : Prop := Claim7.holds Tryz.pinned (.plain (OpenSpec.upto factsCompareSpec)) factsCompareUptoCard

/-- THE SECOND FORM's CARD OF 'mirtowerlaw14.FactsClone'. -/
def factsCloneUptoCard : Claim7 := { stood := { row := factsCloneUptoRow, standIns := [], harness := (true, "6518f6fc3daf74643f48fddcae068f674ba94daf43cde20ff8f8b6a60d5b26e4"), looks := false }, kinds := [], alts := [], laidByText := true, laidKinds := [.data, .widerDeep, .widerDeep, .pinned], laidTests := true, laidLooks := .later }
def FactsCloneUptoCardSaid : Prop := Claim7.holds Tryz.pinned (.plain (OpenSpec.upto factsCloneSpec)) factsCloneUptoCard

/-- THE SECOND FORM's CARD OF 'mirtowerlaw15.LoansMatchReference'. -/
def loansMatchReferenceUptoCard : Claim7 := { stood := { row := loansMatchReferenceUptoRow, standIns := [], harness := (true, "6518f6fc3daf74643f48fddcae068f674ba94daf43cde20ff8f8b6a60d5b26e4"), looks := false }, kinds := [], alts := [], laidByText := true, laidKinds := [.data, .widerDeep, .widerDeep, .pinned], laidTests := true, laidLooks := .later }
def LoansMatchReferenceUptoCardSaid : Prop := Claim7.holds Tryz.pinned (.plain (OpenSpec.upto loansMatchReferenceSpec)) loansMatchReferenceUptoCard

/-- THE SECOND FORM's CARD OF 'mirtowerlaw15.LoansEquations'. -/
def loansEquationsUptoCard : Claim7 := { stood := { row := loansEquationsUptoRow, standIns := [], harness := (true, "6518f6fc3daf74643f48fddcae068f674ba94daf43cde20ff8f8b6a60d5b26e4"), looks := false }, kinds := [], alts := [], laidByText := true, laidKinds := [.data, .widerDeep, .widerDeep, .pinned], laidTests := true, laidLooks := .later }
def LoansEquationsUptoCardSaid : Prop := Claim7.holds Tryz.pinned (.plain (OpenSpec.upto loansEquationsSpec)) loansEquationsUptoCard

/-- THE SECOND FORM's CARD OF 'mirtowerlaw15.LoansWitness'. -/
def loansWitnessUptoCard : Claim7 := { stood := { row := loansWitnessUptoRow, standIns := [], harness := (true, "6518f6fc3daf74643f48fddcae068f674ba94daf43cde20ff8f8b6a60d5b26e4"), looks := false }, kinds := [], alts := [], laidByText := true, laidKinds := [.data, .widerDeep, .widerDeep, .pinned], laidTests := true, laidLooks := .later }
def LoansWitnessUptoCardSaid : Prop := Claim7.holds Tryz.pinned (.plain (OpenSpec.upto loansWitnessSpec)) loansWitnessUptoCard

/-- THE SECOND FORM's CARD OF 'mirtowerlaw15.LoansMonotone'. -/
def loansMonotoneUptoCard : Claim7 := { stood := { row := loansMonotoneUptoRow, standIns := [], harness := (true, "6518f6fc3daf74643f48fddcae068f674ba94daf43cde20ff8f8b6a60d5b26e4"), looks := false }, kinds := [], alts := [], laidByText := true, laidKinds := [.data, .widerDeep, .widerDeep, .pinned], laidTests := true, laidLooks := .later }
def LoansMonotoneUptoCardSaid : Prop := Claim7.holds Tryz.pinned (.plain (OpenSpec.upto loansMonotoneSpec)) loansMonotoneUptoCard
end Rows
end Go.Proofs.YtkaigkfbkpinlaaGreatDoor
