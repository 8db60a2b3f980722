/-
  DERIVED. GIVEN WITH THE SEED: THE CARDS: each row of YtioapcamanmoiaaDoorRows.lean that lists a variable, with what it lists TIED to the program's text (the seventh form; the later family's looks); each row that meets fmt, with fmt's text TOLD by the authors' own Lean function (tested against real Go, not proved from fmt's source: count such statements apart). THE CARD IS WHAT COUNTS. Prove the row's statement (the work); the ties are given (YtioapcamanmoiaaDoorTie.lean); close each card by the builder's one call (the guide's Derived/Test/ToyasCard.lean, 'card_holds'). Laid BY PROGRAM, IN A SANDBOX (cutbox-door.mjs). By AI agents, Wed Nov 11 2026. No macro, syntax, notation, axiom, sorry.
-/
import Derived.Test.YtioapcamanmoiaaDoorRows
import GoSem.ClaimSeven
namespace Go.Proofs.YtioapcamanmoiaaDoor
namespace Rows

/-- THE TIED CARD OF 'wagonpoollaw14.BookNextIsAccepted'. -/
def bookNextIsAcceptedCard : Claim7 := { stood := { row := bookNextIsAcceptedRow, standIns := [], harness := (true, "20196d3f0fe5aced847b63b8e6488d2b3bb1a46b4f08080d3f04e2d720b99c10"), looks := false }, kinds := [], alts := [], laidByText := true, laidKinds := [.data], laidTests := true, laidLooks := .later }
def BookNextIsAcceptedCardSaid : Prop := Claim7.holds Tryd.pinned (.plain (OpenSpec.ofChange bookNextIsAcceptedSpec)) bookNextIsAcceptedCard

/-- THE TIED CARD OF 'wagonpoollaw14.BookForks'. -/
def bookForksCard : Claim7 := { stood := { row := bookForksRow, standIns := [], harness := (true, "20196d3f0fe5aced847b63b8e6488d2b3bb1a46b4f08080d3f04e2d720b99c10"), looks := false }, kinds := [], alts := [], laidByText := true, laidKinds := [.data], laidTests := true, laidLooks := .later }
def BookForksCardSaid : Prop := Claim7.holds Tryd.pinned (.plain (OpenSpec.ofChange bookForksSpec)) bookForksCard

/-- THE TIED CARD OF 'wagonpoollaw14.BookReports'. -/
def bookReportsCard : Claim7 := { stood := { row := bookReportsRow, standIns := [], harness := (true, "20196d3f0fe5aced847b63b8e6488d2b3bb1a46b4f08080d3f04e2d720b99c10"), looks := false }, kinds := [], alts := [], laidByText := true, laidKinds := [.data], laidTests := true, laidLooks := .later }
def BookReportsCardSaid : Prop := Claim7.holds Tryd.pinned (.plain (OpenSpec.ofChange bookReportsSpec)) bookReportsCard

/-- THE TIED CARD OF 'wagonpoollaw14.BookLinks'. -/
def bookLinksCard : Claim7 := { stood := { row := bookLinksRow, standIns := [], harness := (true, "20196d3f0fe5aced847b63b8e6488d2b3bb1a46b4f08080d3f04e2d720b99c10"), looks := false }, kinds := [], alts := [], laidByText := true, laidKinds := [.data], laidTests := true, laidLooks := .later }
def BookLinksCardSaid : Prop := Claim7.holds Tryd.pinned (.plain (OpenSpec.ofChange bookLinksSpec)) bookLinksCard

/-- THE SECOND FORM's CARD OF 'wagonpoollaw14.BookNextIsAccepted'. -/
def bookNextIsAcceptedUptoCard : Claim7 := { stood := { row := bookNextIsAcceptedUptoRow, standIns := [], harness := (true, "20196d3f0fe5aced847b63b8e6488d2b3bb1a46b4f08080d3f04e2d720b99c10"), looks := false }, kinds := [], alts := [], laidByText := true, laidKinds := [.data], laidTests := true, laidLooks := .later }
def BookNextIsAcceptedUptoCardSaid : Prop := Claim7.holds Tryd.pinned (.plain (OpenSpec.upto bookNextIsAcceptedSpec)) bookNextIsAcceptedUptoCard

/-- THE SECOND FORM's CARD OF 'wagonpoollaw14.BookForks'. -/
def bookForksUptoCard : Claim7 := { stood := { row := bookForksUptoRow, standIns := [], harness := (true, "20196d3f0fe5aced847b63b8e6488d2b3bb1a46b4f08080d3f04e2d720b99c10"), looks := false }, kinds := [], alts := [], laidByText := true, laidKinds := [.data], laidTests := true, laidLooks := .later }
def BookForksUptoCardSaid : Prop := Claim7.holds Tryd.pinned (.plain (OpenSpec.upto bookForksSpec)) bookForksUptoCard

/-- THE SECOND FORM's CARD OF 'wagonpoollaw14.BookReports'. -/
def bookReportsUptoCard : Claim7 := { stood := { row := bookReportsUptoRow, standIns := [], harness := (true, "20196d3f0fe5aced847b63b8e6488d2b3bb1a46b4f08080d3f04e2d720b99c10"), looks := false }, kinds := [], alts := [], laidByText := true, laidKinds := [.data], laidTests := true, laidLooks := .later }
def BookReportsUptoCardSaid : Prop := Claim7.holds Tryd.pinned (.plain (OpenSpec.upto bookReportsSpec)) bookReportsUptoCard

/-- THE SECOND FORM's CARD OF 'wagonpoollaw14.BookLinks'. -/
def bookLinksUptoCard : Claim7 := { stood := { row := bookLinksUptoRow, standIns := [], harness := (true, "20196d3f0fe5aced847b63b8e6488d2b3bb1a46b4f08080d3f04e2d720b99c10"), looks := false }, kinds := [], alts := [], laidByText := true, laidKinds := [.data], laidTests := true, laidLooks := .later }
def BookLinksUptoCardSaid : Prop := Claim7.holds Tryd.pinned (.plain (OpenSpec.upto bookLinksSpec)) bookLinksUptoCard
end Rows
end Go.Proofs.YtioapcamanmoiaaDoor
