/-
  DERIVED. GIVEN WITH THE SEED: THE CARDS: each row of YtbnljlpefpllcaaGreatDoorRows.lean that lists a variable, with what it lists TIED to the program's text (the seventh form; the later family's looks); each row that meets fmt, with fmt's text TOLD by the authors' own Lean function (tested against real Go, not proved from fmt's source: count such statements apart). THE CARD IS WHAT COUNTS. Prove the row's statement (the work); the ties are given (YtbnljlpefpllcaaGreatDoorTie.lean); close each card by the builder's one call (the guide's Derived/Test/ToyasCard.lean, 'card_holds'). Laid BY PROGRAM, IN A SANDBOX (cutbox-door.mjs). By AI agents, Wed Nov 11 2026. No macro, syntax, notation, axiom, sorry.
-/
import Derived.Test.YtbnljlpefpllcaaGreatDoorRows
import GoSem.ClaimSeven
namespace Go.Proofs.YtbnljlpefpllcaaGreatDoor
namespace Rows

/-- THE TIED CARD OF 'mirtowerlaw16.BindeclEncodes'. -/
def bindeclEncodesCard : Claim7 := { stood := { row := bindeclEncodesRow, standIns := [], harness := (true, "df92e3dffe42141494600ee8b20469a2441dd03061facf2bfbf3bc0513c4d676"), looks := false }, kinds := [], alts := [], laidByText := true, laidKinds := [.data, .widerDeep, .widerDeep, .pinned], laidTests := true, laidLooks := .later }
def BindeclEncodesCardSaid : Prop := Claim7.holds Tryz.pinned (.plain (OpenSpec.ofChange bindeclEncodesSpec)) bindeclEncodesCard

/-- THE TIED CARD OF 'mirtowerlaw16.BindeclDecodes'. -/
def bindeclDecodesCard : Claim7 := { stood := { row := bindeclDecodesRow, standIns := [], harness := (true, "df92e3dffe42141494600ee8b20469a2441dd03061facf2bfbf3bc0513c4d676"), looks := false }, kinds := [], alts := [], laidByText := true, laidKinds := [.data, .widerDeep, .widerDeep, .pinned], laidTests := true, laidLooks := .later }
def BindeclDecodesCardSaid : Prop := Claim7.holds Tryz.pinned (.plain (OpenSpec.ofChange bindeclDecodesSpec)) bindeclDecodesCard

/-- THE TIED CARD OF 'mirtowerlaw16.BindeclRoundTrip'. -/
def bindeclRoundTripCard : Claim7 := { stood := { row := bindeclRoundTripRow, standIns := [], harness := (true, "df92e3dffe42141494600ee8b20469a2441dd03061facf2bfbf3bc0513c4d676"), looks := false }, kinds := [], alts := [], laidByText := true, laidKinds := [.data, .widerDeep, .widerDeep, .pinned], laidTests := true, laidLooks := .later }
def BindeclRoundTripCardSaid : Prop := Claim7.holds Tryz.pinned (.plain (OpenSpec.ofChange bindeclRoundTripSpec)) bindeclRoundTripCard

/-- THE TIED CARD OF 'mirtowerlaw16.BindeclIsCanonical'. -/
def bindeclIsCanonicalCard : Claim7 := { stood := { row := bindeclIsCanonicalRow, standIns := [], harness := (true, "df92e3dffe42141494600ee8b20469a2441dd03061facf2bfbf3bc0513c4d676"), looks := false }, kinds := [], alts := [], laidByText := true, laidKinds := [.data, .widerDeep, .widerDeep, .pinned], laidTests := true, laidLooks := .later }
def BindeclIsCanonicalCardSaid : Prop := Claim7.holds Tryz.pinned (.plain (OpenSpec.ofChange bindeclIsCanonicalSpec)) bindeclIsCanonicalCard

/-- THE TIED CARD OF 'mirtowerlaw16.BindeclPrefixes'. -/
def bindeclPrefixesCard : Claim7 := { stood := { row := bindeclPrefixesRow, standIns := [], harness := (true, "df92e3dffe42141494600ee8b20469a2441dd03061facf2bfbf3bc0513c4d676"), looks := false }, kinds := [], alts := [], laidByText := true, laidKinds := [.data, .widerDeep, .widerDeep, .pinned], laidTests := true, laidLooks := .later }
def BindeclPrefixesCardSaid : Prop := Claim7.holds Tryz.pinned (.plain (OpenSpec.ofChange bindeclPrefixesSpec)) bindeclPrefixesCard

/-- THE SECOND FORM's CARD OF 'mirtowerlaw16.BindeclEncodes'. -/
def bindeclEncodesUptoCard : Claim7 := { stood := { row := bindeclEncodesUptoRow, standIns := [], harness := (true, "df92e3dffe42141494600ee8b20469a2441dd03061facf2bfbf3bc0513c4d676"), looks := false }, kinds := [], alts := [], laidByText := true, laidKinds := [.data, .widerDeep, .widerDeep, .pinned], laidTests := true, laidLooks := .later }
def BindeclEncodesUptoCardSaid : Prop := Claim7.holds Tryz.pinned (.plain (OpenSpec.upto bindeclEncodesSpec)) bindeclEncodesUptoCard

/-- THE SECOND FORM's CARD OF 'mirtowerlaw16.BindeclDecodes'. -/
def bindeclDecodesUptoCard : Claim7 := { stood := { row := bindeclDecodesUptoRow, standIns := [], harness := (true, "df92e3dffe42141494600ee8b20469a2441dd03061facf2bfbf3bc0513c4d676"), looks := false }, kinds := [], alts := [], laidByText := true, laidKinds := [.data, .widerDeep, .widerDeep, .pinned], laidTests := true, laidLooks := .later }
def BindeclDecodesUptoCardSaid : Prop := Claim7.holds Tryz.pinned (.plain (OpenSpec.upto bindeclDecodesSpec)) bindeclDecodesUptoCard

/-- THE SECOND FORM's CARD OF 'mirtowerlaw16.BindeclRoundTrip'. -/
def bindeclRoundTripUptoCard : Claim7 := { stood := { row := bindeclRoundTripUptoRow, standIns := [], harness := (true, "df92e3dffe42141494600ee8b20469a2441dd03061facf2bfbf3bc0513c4d676"), looks := false }, kinds := [], alts := [], laidByText := true, laidKinds := [.data, .widerDeep, .widerDeep, .pinned], laidTests := true, laidLooks := .later }
def BindeclRoundTripUptoCardSaid : Prop := Claim7.holds Tryz.pinned (.plain (OpenSpec.upto bindeclRoundTripSpec)) bindeclRoundTripUptoCard

/-- THE SECOND FORM's CARD OF 'mirtowerlaw16.BindeclIsCanonical'. -/
def bindeclIsCanonicalUptoCard : Claim7 := { stood := { row := bindeclIsCanonicalUptoRow, standIns := [], harness := (true, "df92e3dffe42141494600ee8b20469a2441dd03061facf2bfbf3bc0513c4d676"), looks := false }, kinds := [], alts := [], laidByText := true, laidKinds := [.data, .widerDeep, .widerDeep, .pinned], laidTests := true, laidLooks := .later }
def BindeclIsCanonicalUptoCardSaid : Prop := Claim7.holds Tryz.pinned (.plain (OpenSpec.upto bindeclIsCanonicalSpec)) bindeclIsCanonicalUptoCard

/-- THE SECOND FORM's CARD OF 'mirtowerlaw16.BindeclPrefixes'. -/
def bindeclPrefixesUptoCard : Claim7 := { stood := { row := bindeclPrefixesUptoRow, standIns := [], harness := (true, "df92e3dffe42141494600ee8b20469a2441dd03061facf2bfbf3bc0513c4d676"), looks := false }, kinds := [], alts := [], laidByText := true, laidKinds := [.data, .widerDeep, .widerDeep, .pinned], laidTests := true, laidLooks := .later }
def BindeclPrefixesUptoCardSaid : Prop := Claim7.holds Tryz.pinned (.plain (OpenSpec.upto bindeclPrefixesSpec)) bindeclPrefixesUptoCard
end Rows
end Go.Proofs.YtbnljlpefpllcaaGreatDoor
