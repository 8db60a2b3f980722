/-
  DERIVED. GIVEN WITH THE SEED: THE CARDS: each row of YtnfoiocigicdnaaGreatDoorRows.lean that lists a variable, with what it lists TIED to the program's text (the seventh form; the later family's looks); each row that meets fmt, with fmt's text TOLD by the authors' own Lean function (tested against real Go, not proved from fmt's source: count such statements apart). THE CARD IS WHAT COUNTS. Prove the row's statement (the work); the ties are given (YtnfoiocigicdnaaGreatDoorTie.lean); close each card by the builder's one call (the guide's Derived/Test/ToyasCard.lean, 'card_holds'). Laid BY PROGRAM, IN A SANDBOX (cutbox-door.mjs). By AI agents, Wed Nov 11 2026. No macro, syntax, notation, axiom, sorry.
-/
import Derived.Test.YtnfoiocigicdnaaGreatDoorRows
import GoSem.ClaimSeven
namespace Go.Proofs.YtnfoiocigicdnaaGreatDoor
namespace Rows

/-- THE TIED CARD OF 'wagonpoollaw11.EdiCheckMatchesReference'. -/
def ediCheckMatchesReferenceCard : Claim7 := { stood := { row := ediCheckMatchesReferenceRow, standIns := [], harness := (true, "25eb2ff2271b5f38caeebaded5aa82fa7120d76630f645dd4b7446138721088c"), looks := true }, kinds := [], alts := [], laidByText := true, laidKinds := [.data, .data, .data, .data, .sentinel, .sentinel, .widerDeep, .pinned], laidTests := true, laidLooks := .later }
def EdiCheckMatchesReferenceCardSaid : Prop := Claim7.holds Tryz.pinned (.plain (OpenSpec.ofChange ediCheckMatchesReferenceSpec)) ediCheckMatchesReferenceCard

/-- THE TIED CARD OF 'wagonpoollaw11.EdiMatchesReference'. -/
def ediMatchesReferenceCard : Claim7 := { stood := { row := ediMatchesReferenceRow, standIns := [], harness := (true, "25eb2ff2271b5f38caeebaded5aa82fa7120d76630f645dd4b7446138721088c"), looks := true }, kinds := [], alts := [], laidByText := true, laidKinds := [.data, .data, .data, .data, .sentinel, .sentinel, .widerDeep, .pinned], laidTests := true, laidLooks := .later }
def EdiMatchesReferenceCardSaid : Prop := Claim7.holds Tryz.pinned (.plain (OpenSpec.ofChange ediMatchesReferenceSpec)) ediMatchesReferenceCard

/-- THE TIED CARD OF 'wagonpoollaw11.EdiParseMatchesReference'. -/
def ediParseMatchesReferenceCard : Claim7 := { stood := { row := ediParseMatchesReferenceRow, standIns := [], harness := (true, "25eb2ff2271b5f38caeebaded5aa82fa7120d76630f645dd4b7446138721088c"), looks := true }, kinds := [], alts := [], laidByText := true, laidKinds := [.data, .data, .data, .data, .sentinel, .sentinel, .widerDeep, .pinned], laidTests := true, laidLooks := .later }
def EdiParseMatchesReferenceCardSaid : Prop := Claim7.holds Tryz.pinned (.plain (OpenSpec.ofChange ediParseMatchesReferenceSpec)) ediParseMatchesReferenceCard

/-- THE TIED CARD OF 'wagonpoollaw11.EdiRoundTrip'. -/
def ediRoundTripCard : Claim7 := { stood := { row := ediRoundTripRow, standIns := [], harness := (true, "25eb2ff2271b5f38caeebaded5aa82fa7120d76630f645dd4b7446138721088c"), looks := true }, kinds := [], alts := [], laidByText := true, laidKinds := [.data, .data, .data, .data, .sentinel, .sentinel, .widerDeep, .pinned], laidTests := true, laidLooks := .later }
def EdiRoundTripCardSaid : Prop := Claim7.holds Tryz.pinned (.plain (OpenSpec.ofChange ediRoundTripSpec)) ediRoundTripCard

/-- THE TIED CARD OF 'wagonpoollaw11.EdiParseIsCanonical'. -/
def ediParseIsCanonicalCard : Claim7 := { stood := { row := ediParseIsCanonicalRow, standIns := [], harness := (true, "25eb2ff2271b5f38caeebaded5aa82fa7120d76630f645dd4b7446138721088c"), looks := true }, kinds := [], alts := [], laidByText := true, laidKinds := [.data, .data, .data, .data, .sentinel, .sentinel, .widerDeep, .pinned], laidTests := true, laidLooks := .later }
def EdiParseIsCanonicalCardSaid : Prop := Claim7.holds Tryz.pinned (.plain (OpenSpec.ofChange ediParseIsCanonicalSpec)) ediParseIsCanonicalCard

/-- THE TIED CARD OF 'wagonpoollaw11.EdiBinds'. -/
def ediBindsCard : Claim7 := { stood := { row := ediBindsRow, standIns := [], harness := (true, "25eb2ff2271b5f38caeebaded5aa82fa7120d76630f645dd4b7446138721088c"), looks := true }, kinds := [], alts := [], laidByText := true, laidKinds := [.data, .data, .data, .data, .sentinel, .sentinel, .widerDeep, .pinned], laidTests := true, laidLooks := .later }
def EdiBindsCardSaid : Prop := Claim7.holds Tryz.pinned (.plain (OpenSpec.ofChange ediBindsSpec)) ediBindsCard

/-- THE TIED CARD OF 'wagonpoollaw11.EdiExact'. -/
def ediExactCard : Claim7 := { stood := { row := ediExactRow, standIns := [], harness := (true, "25eb2ff2271b5f38caeebaded5aa82fa7120d76630f645dd4b7446138721088c"), looks := true }, kinds := [], alts := [], laidByText := true, laidKinds := [.data, .data, .data, .data, .sentinel, .sentinel, .widerDeep, .pinned], laidTests := true, laidLooks := .later }
def EdiExactCardSaid : Prop := Claim7.holds Tryz.pinned (.plain (OpenSpec.ofChange ediExactSpec)) ediExactCard

/-- THE TIED CARD OF 'wagonpoollaw11.EdiFramed'. -/
def ediFramedCard : Claim7 := { stood := { row := ediFramedRow, standIns := [], harness := (true, "25eb2ff2271b5f38caeebaded5aa82fa7120d76630f645dd4b7446138721088c"), looks := true }, kinds := [], alts := [], laidByText := true, laidKinds := [.data, .data, .data, .data, .sentinel, .sentinel, .widerDeep, .pinned], laidTests := true, laidLooks := .later }
def EdiFramedCardSaid : Prop := Claim7.holds Tryz.pinned (.plain (OpenSpec.ofChange ediFramedSpec)) ediFramedCard

/-- THE TIED CARD OF 'wagonpoollaw11.EdiValues'. -/
def ediValuesCard : Claim7 := { stood := { row := ediValuesRow, standIns := [], harness := (true, "25eb2ff2271b5f38caeebaded5aa82fa7120d76630f645dd4b7446138721088c"), looks := true }, kinds := [], alts := [], laidByText := true, laidKinds := [.data, .data, .data, .data, .sentinel, .sentinel, .widerDeep, .pinned], laidTests := true, laidLooks := .later }
def EdiValuesCardSaid : Prop := Claim7.holds Tryz.pinned (.plain (OpenSpec.ofChange ediValuesSpec)) ediValuesCard

/-- THE SECOND FORM's CARD OF 'wagonpoollaw11.EdiCheckMatchesReference'. -/
def ediCheckMatchesReferenceUptoCard : Claim7 := { stood := { row := ediCheckMatchesReferenceUptoRow, standIns := [], harness := (true, "25eb2ff2271b5f38caeebaded5aa82fa7120d76630f645dd4b7446138721088c"), looks := true }, kinds := [], alts := [], laidByText := true, laidKinds := [.data, .data, .data, .data, .sentinel, .sentinel, .widerDeep, .pinned], laidTests := true, laidLooks := .later }
def EdiCheckMatchesReferenceUptoCardSaid : Prop := Claim7.holds Tryz.pinned (.plain (OpenSpec.upto ediCheckMatchesReferenceSpec)) ediCheckMatchesReferenceUptoCard

/-- THE SECOND FORM's CARD OF 'wagonpoollaw11.EdiMatchesReference'. -/
def ediMatchesReferenceUptoCard : Claim7 := { stood := { row := ediMatchesReferenceUptoRow, standIns := [], harness := (true, "25eb2ff2271b5f38caeebaded5aa82fa7120d76630f645dd4b7446138721088c"), looks := true }, kinds := [], alts := [], laidByText := true, laidKinds := [.data, .data, .data, .data, .sentinel, .sentinel, .widerDeep, .pinned], laidTests := true, laidLooks := .later }
def EdiMatchesReferenceUptoCardSaid : Prop := Claim7.holds Tryz.pinned (.plain (OpenSpec.upto ediMatchesReferenceSpec)) ediMatchesReferenceUptoCard

/-- THE SECOND FORM's CARD OF 'wagonpoollaw11.EdiParseMatchesReference'. -/
def ediParseMatchesReferenceUptoCard : Claim7 := { stood := { row := ediParseMatchesReferenceUptoRow, standIns := [], harness := (true, "25eb2ff2271b5f38caeebaded5aa82fa7120d76630f645dd4b7446138721088c"), looks := true }, kinds := [], alts := [], laidByText := true, laidKinds := [.data, .data, .data, .data, .sentinel, .sentinel, .widerDeep, .pinned], laidTests := true, laidLooks := .later }
def EdiParseMatchesReferenceUptoCardSaid : Prop := Claim7.holds Tryz.pinned (.plain (OpenSpec.upto ediParseMatchesReferenceSpec)) ediParseMatchesReferenceUptoCard

/-- THE SECOND FORM's CARD OF 'wagonpoollaw11.EdiRoundTrip'. -/
def ediRoundTripUptoCard : Claim7 := { stood := { row := ediRoundTripUptoRow, standIns := [], harness := (true, "25eb2ff2271b5f38caeebaded5aa82fa7120d76630f645dd4b7446138721088c"), looks := true }, kinds := [], alts := [], laidByText := true, laidKinds := [.data, .data, .data, .data, .sentinel, .sentinel, .widerDeep, .pinned], laidTests := true, laidLooks := .later }
def EdiRoundTripUptoCardSaid : Prop := Claim7.holds Tryz.pinned (.plain (OpenSpec.upto ediRoundTripSpec)) ediRoundTripUptoCard

/-- THE SECOND FORM's CARD OF 'wagonpoollaw11.EdiParseIsCanonical'. -/
def ediParseIsCanonicalUptoCard : Claim7 := { stood := { row := ediParseIsCanonicalUptoRow, standIns := [], harness := (true, "25eb2ff2271b5f38caeebaded5aa82fa7120d76630f645dd4b7446138721088c"), looks := true }, kinds := [], alts := [], laidByText := true, laidKinds := [.data, .data, .data, .data, .sentinel, .sentinel, .widerDeep, .pinned], laidTests := true, laidLooks := .later }
def EdiParseIsCanonicalUptoCardSaid : Prop := Claim7.holds Tryz.pinned (.plain (OpenSpec.upto ediParseIsCanonicalSpec)) ediParseIsCanonicalUptoCard

/-- THE SECOND FORM's CARD OF 'wagonpoollaw11.EdiBinds'. -/
def ediBindsUptoCard : Claim7 := { stood := { row := ediBindsUptoRow, standIns := [], harness := (true, "25eb2ff2271b5f38caeebaded5aa82fa7120d76630f645dd4b7446138721088c"), looks := true }, kinds := [], alts := [], laidByText := true, laidKinds := [.data, .data, .data, .data, .sentinel, .sentinel, .widerDeep, .pinned], laidTests := true, laidLooks := .later }
def EdiBindsUptoCardSaid : Prop := Claim7.holds Tryz.pinned (.plain (OpenSpec.upto ediBindsSpec)) ediBindsUptoCard

/-- THE SECOND FORM's CARD OF 'wagonpoollaw11.EdiExact'. -/
def ediExactUptoCard : Claim7 := { stood := { row := ediExactUptoRow, standIns := [], harness := (true, "25eb2ff2271b5f38caeebaded5aa82fa7120d76630f645dd4b7446138721088c"), looks := true }, kinds := [], alts := [], laidByText := true, laidKinds := [.data, .data, .data, .data, .sentinel, .sentinel, .widerDeep, .pinned], laidTests := true, laidLooks := .later }
def EdiExactUptoCardSaid : Prop := Claim7.holds Tryz.pinned (.plain (OpenSpec.upto ediExactSpec)) ediExactUptoCard

/-- THE SECOND FORM's CARD OF 'wagonpoollaw11.EdiFramed'. -/
def ediFramedUptoCard : Claim7 := { stood := { row := ediFramedUptoRow, standIns := [], harness := (true, "25eb2ff2271b5f38caeebaded5aa82fa7120d76630f645dd4b7446138721088c"), looks := true }, kinds := [], alts := [], laidByText := true, laidKinds := [.data, .data, .data, .data, .sentinel, .sentinel, .widerDeep, .pinned], laidTests := true, laidLooks := .later }
def EdiFramedUptoCardSaid : Prop := Claim7.holds Tryz.pinned (.plain (OpenSpec.upto ediFramedSpec)) ediFramedUptoCard

/-- THE SECOND FORM's CARD OF 'wagonpoollaw11.EdiValues'. -/
def ediValuesUptoCard : Claim7 := { stood := { row := ediValuesUptoRow, standIns := [], harness := (true, "25eb2ff2271b5f38caeebaded5aa82fa7120d76630f645dd4b7446138721088c"), looks := true }, kinds := [], alts := [], laidByText := true, laidKinds := [.data, .data, .data, .data, .sentinel, .sentinel, .widerDeep, .pinned], laidTests := true, laidLooks := .later }
def EdiValuesUptoCardSaid : Prop := Claim7.holds Tryz.pinned (.plain (OpenSpec.upto ediValuesSpec)) ediValuesUptoCard
end Rows
end Go.Proofs.YtnfoiocigicdnaaGreatDoor
