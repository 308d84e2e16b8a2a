/-
  DERIVED. GIVEN WITH THE SEED: THE CARDS: each row of YtcfchohkmkilpaaGreatDoorRows.lean that lists a variable, with what it lists TIED to the program's text (the seventh form; the later family's looks); each row that meets fmt, with fmt's text TOLD by the authors' own Lean function (tested against real Go, not proved from fmt's source: count such statements apart). THE CARD IS WHAT COUNTS. Prove the row's statement (the work); the ties are given (YtcfchohkmkilpaaGreatDoorTie.lean); close each card by the builder's one call (the guide's Derived/Test/ToyasCard.lean, 'card_holds'). Laid BY PROGRAM, IN A SANDBOX (cutbox-door.mjs). By AI agents, Wed Nov 11 2026. No macro, syntax, notation, axiom, sorry.
-/
import Derived.Test.YtcfchohkmkilpaaGreatDoorRows
import GoSem.ClaimSeven
namespace Go.Proofs.YtcfchohkmkilpaaGreatDoor
namespace Rows

/-- THE TIED CARD OF 'mirtowerlaw12.LivenessUses'. -/
def livenessUsesCard : Claim7 := { stood := { row := livenessUsesRow, standIns := [], harness := (true, "c508f7b79725eb36423e68c36a915c820725776de7feaa7e39e53a602ed9389b"), looks := false }, kinds := [], alts := [], laidByText := true, laidKinds := [.data, .widerDeep, .widerDeep, .pinned], laidTests := true, laidLooks := .later }
def LivenessUsesCardSaid : Prop := Claim7.holds Tryz.pinned (.plain (OpenSpec.ofChange livenessUsesSpec)) livenessUsesCard

/-- THE TIED CARD OF 'mirtowerlaw12.LivenessRegions'. -/
def livenessRegionsCard : Claim7 := { stood := { row := livenessRegionsRow, standIns := [], harness := (true, "c508f7b79725eb36423e68c36a915c820725776de7feaa7e39e53a602ed9389b"), looks := false }, kinds := [], alts := [], laidByText := true, laidKinds := [.data, .widerDeep, .widerDeep, .pinned], laidTests := true, laidLooks := .later }
def LivenessRegionsCardSaid : Prop := Claim7.holds Tryz.pinned (.plain (OpenSpec.ofChange livenessRegionsSpec)) livenessRegionsCard

/-- THE TIED CARD OF 'mirtowerlaw12.LivenessEnds'. -/
def livenessEndsCard : Claim7 := { stood := { row := livenessEndsRow, standIns := [], harness := (true, "c508f7b79725eb36423e68c36a915c820725776de7feaa7e39e53a602ed9389b"), looks := false }, kinds := [], alts := [], laidByText := true, laidKinds := [.data, .widerDeep, .widerDeep, .pinned], laidTests := true, laidLooks := .later }
def LivenessEndsCardSaid : Prop := Claim7.holds Tryz.pinned (.plain (OpenSpec.ofChange livenessEndsSpec)) livenessEndsCard

/-- THE TIED CARD OF 'mirtowerlaw12.LivenessEquations'. -/
def livenessEquationsCard : Claim7 := { stood := { row := livenessEquationsRow, standIns := [], harness := (true, "c508f7b79725eb36423e68c36a915c820725776de7feaa7e39e53a602ed9389b"), looks := false }, kinds := [], alts := [], laidByText := true, laidKinds := [.data, .widerDeep, .widerDeep, .pinned], laidTests := true, laidLooks := .later }
def LivenessEquationsCardSaid : Prop := Claim7.holds Tryz.pinned (.plain (OpenSpec.ofChange livenessEquationsSpec)) livenessEquationsCard

/-- THE TIED CARD OF 'mirtowerlaw12.LivenessLocals'. -/
def livenessLocalsCard : Claim7 := { stood := { row := livenessLocalsRow, standIns := [], harness := (true, "c508f7b79725eb36423e68c36a915c820725776de7feaa7e39e53a602ed9389b"), looks := false }, kinds := [], alts := [], laidByText := true, laidKinds := [.data, .widerDeep, .widerDeep, .pinned], laidTests := true, laidLooks := .later }
def LivenessLocalsCardSaid : Prop := Claim7.holds Tryz.pinned (.plain (OpenSpec.ofChange livenessLocalsSpec)) livenessLocalsCard

/-- THE TIED CARD OF 'mirtowerlaw12.LivenessCloses'. -/
def livenessClosesCard : Claim7 := { stood := { row := livenessClosesRow, standIns := [], harness := (true, "c508f7b79725eb36423e68c36a915c820725776de7feaa7e39e53a602ed9389b"), looks := false }, kinds := [], alts := [], laidByText := true, laidKinds := [.data, .widerDeep, .widerDeep, .pinned], laidTests := true, laidLooks := .later }
def LivenessClosesCardSaid : Prop := Claim7.holds Tryz.pinned (.plain (OpenSpec.ofChange livenessClosesSpec)) livenessClosesCard

/-- THE SECOND FORM's CARD OF 'mirtowerlaw12.LivenessUses'. -/
def livenessUsesUptoCard : Claim7 := { stood := { row := livenessUsesUptoRow, standIns := [], harness := (true, "c508f7b79725eb36423e68c36a915c820725776de7feaa7e39e53a602ed9389b"), looks := false }, kinds := [], alts := [], laidByText := true, laidKinds := [.data, .widerDeep, .widerDeep, .pinned], laidTests := true, laidLooks := .later }
def LivenessUsesUptoCardSaid : Prop := Claim7.holds Tryz.pinned (.plain (OpenSpec.upto livenessUsesSpec)) livenessUsesUptoCard

/-- THE SECOND FORM's CARD OF 'mirtowerlaw12.LivenessRegions'. -/
def livenessRegionsUptoCard : Claim7 := { stood := { row := livenessRegionsUptoRow, standIns := [], harness := (true, "c508f7b79725eb36423e68c36a915c820725776de7feaa7e39e53a602ed9389b"), looks := false }, kinds := [], alts := [], laidByText := true, laidKinds := [.data, .widerDeep, .widerDeep, .pinned], laidTests := true, laidLooks := .later }
def LivenessRegionsUptoCardSaid : Prop := Claim7.holds Tryz.pinned (.plain (OpenSpec.upto livenessRegionsSpec)) livenessRegionsUptoCard

/-- THE SECOND FORM's CARD OF 'mirtowerlaw12.LivenessEnds'. -/
def livenessEndsUptoCard : Claim7 := { stood := { row := livenessEndsUptoRow, standIns := [], harness := (true, "c508f7b79725eb36423e68c36a915c820725776de7feaa7e39e53a602ed9389b"), looks := false }, kinds := [], alts := [], laidByText := true, laidKinds := [.data, .widerDeep, .widerDeep, .pinned], laidTests := true, laidLooks := .later }
def LivenessEndsUptoCardSaid : Prop := Claim7.holds Tryz.pinned (.plain (OpenSpec.upto livenessEndsSpec)) livenessEndsUptoCard

/-- THE SECOND FORM's CARD OF 'mirtowerlaw12.LivenessEquations'. -/
def livenessEquationsUptoCard : Claim7 := { stood := { row := livenessEquationsUptoRow, standIns := [], harness := (true, "c508f7b79725eb36423e68c36a915c820725776de7feaa7e39e53a602ed9389b"), looks := false }, kinds := [], alts := [], laidByText := true, laidKinds := [.data, .widerDeep, .widerDeep, .pinned], laidTests := true, laidLooks := .later }
def LivenessEquationsUptoCardSaid : Prop := Claim7.holds Tryz.pinned (.plain (OpenSpec.upto livenessEquationsSpec)) livenessEquationsUptoCard

/-- THE SECOND FORM's CARD OF 'mirtowerlaw12.LivenessLocals'. -/
def livenessLocalsUptoCard : Claim7 := { stood := { row := livenessLocalsUptoRow, standIns := [], harness := (true, "c508f7b79725eb36423e68c36a915c820725776de7feaa7e39e53a602ed9389b"), looks := false }, kinds := [], alts := [], laidByText := true, laidKinds := [.data, .widerDeep, .widerDeep, .pinned], laidTests := true, laidLooks := .later }
def LivenessLocalsUptoCardSaid : Prop := Claim7.holds Tryz.pinned (.plain (OpenSpec.upto livenessLocalsSpec)) livenessLocalsUptoCard

/-- THE SECOND FORM's CARD OF 'mirtowerlaw12.LivenessCloses'. -/
def livenessClosesUptoCard : Claim7 := { stood := { row := livenessClosesUptoRow, standIns := [], harness := (true, "c508f7b79725eb36423e68c36a915c820725776de7feaa7e39e53a602ed9389b"), looks := false }, kinds := [], alts := [], laidByText := true, laidKinds := [.data, .widerDeep, .widerDeep, .pinned], laidTests := true, laidLooks := .later }
def LivenessClosesUptoCardSaid : Prop := Claim7.holds Tryz.pinned (.plain (OpenSpec.upto livenessClosesSpec)) livenessClosesUptoCard
end Rows
end Go.Proofs.YtcfchohkmkilpaaGreatDoor
