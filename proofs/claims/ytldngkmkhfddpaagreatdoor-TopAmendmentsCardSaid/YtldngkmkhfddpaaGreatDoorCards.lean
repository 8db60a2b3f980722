/-
  DERIVED. GIVEN WITH THE SEED: THE CARDS: each row of YtldngkmkhfddpaaGreatDoorRows.lean that lists a variable, with what it lists TIED to the program's text (the seventh form; the later family's looks); each row that meets fmt, with fmt's text TOLD by the authors' own Lean function (tested against real Go, not proved from fmt's source: count such statements apart). THE CARD IS WHAT COUNTS. Prove the row's statement (the work); the ties are given (YtldngkmkhfddpaaGreatDoorTie.lean); close each card by the builder's one call (the guide's Derived/Test/ToyasCard.lean, 'card_holds'). Laid BY PROGRAM, IN A SANDBOX (cutbox-door.mjs). By AI agents, Wed Nov 11 2026. No macro, syntax, notation, axiom, sorry.
-/
import Derived.Test.YtldngkmkhfddpaaGreatDoorRows
import GoSem.ClaimSeven
namespace Go.Proofs.YtldngkmkhfddpaaGreatDoor
namespace Rows

/-- THE TIED CARD OF 'wagonpooltop.TopAmendments'. -/
def topAmendmentsCard : Claim7 := { stood := { row := topAmendmentsRow, standIns := [], harness := (true, "0a9310a8cd199b0bc234aabd9153b85485d489014dac6bf7469886b317f1f5e9"), looks := true }, kinds := [], alts := [], laidByText := true, laidKinds := [.data, .data, .data, .data, .listed, .data, .mapped, .mapped, .pinned], laidTests := true, laidLooks := .later }
def TopAmendmentsCardSaid : Prop := Claim7.holds Tryz.pinned (.plain (OpenSpec.ofChange topAmendmentsSpec)) topAmendmentsCard

/-- THE TIED CARD OF 'wagonpooltop.TopInForce'. -/
def topInForceCard : Claim7 := { stood := { row := topInForceRow, standIns := [], harness := (true, "0a9310a8cd199b0bc234aabd9153b85485d489014dac6bf7469886b317f1f5e9"), looks := true }, kinds := [], alts := [], laidByText := true, laidKinds := [.data, .data, .data, .data, .listed, .data, .mapped, .mapped, .pinned], laidTests := true, laidLooks := .later }
def TopInForceCardSaid : Prop := Claim7.holds Tryz.pinned (.plain (OpenSpec.ofChange topInForceSpec)) topInForceCard

/-- THE SECOND FORM's CARD OF 'wagonpooltop.TopAmendments'. -/
def topAmendmentsUptoCard : Claim7 := { stood := { row := topAmendmentsUptoRow, standIns := [], harness := (true, "0a9310a8cd199b0bc234aabd9153b85485d489014dac6bf7469886b317f1f5e9"), looks := true }, kinds := [], alts := [], laidByText := true, laidKinds := [.data, .data, .data, .data, .listed, .data, .mapped, .mapped, .pinned], laidTests := true, laidLooks := .later }
def TopAmendmentsUptoCardSaid : Prop := Claim7.holds Tryz.pinned (.plain (OpenSpec.upto topAmendmentsSpec)) topAmendmentsUptoCard

/-- THE SECOND FORM's CARD OF 'wagonpooltop.TopInForce'. -/
def topInForceUptoCard : Claim7 := { stood := { row := topInForceUptoRow, standIns := [], harness := (true, "0a9310a8cd199b0bc234aabd9153b85485d489014dac6bf7469886b317f1f5e9"), looks := true }, kinds := [], alts := [], laidByText := true, laidKinds := [.data, .data, .data, .data, .listed, .data, .mapped, .mapped, .pinned], laidTests := true, laidLooks := .later }
def TopInForceUptoCardSaid : Prop := Claim7.holds Tryz.pinned (.plain (OpenSpec.upto topInForceSpec)) topInForceUptoCard
end Rows
end Go.Proofs.YtldngkmkhfddpaaGreatDoor
