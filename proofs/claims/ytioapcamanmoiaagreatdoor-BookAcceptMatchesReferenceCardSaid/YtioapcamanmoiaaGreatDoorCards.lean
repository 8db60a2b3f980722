/-
  DERIVED. GIVEN WITH THE SEED: THE CARDS: each row of YtioapcamanmoiaaGreatDoorRows.lean that lists a variable, with what it lists TIED to the program's text (the seventh form; the later family's looks); each row that meets fmt, with fmt's text TOLD by the authors' own Lean function (tested against real Go, not proved from fmt's source: count such statements apart). THE CARD IS WHAT COUNTS. Prove the row's statement (the work); the ties are given (YtioapcamanmoiaaGreatDoorTie.lean); close each card by the builder's one call (the guide's Derived/Test/ToyasCard.lean, 'card_holds'). Laid BY PROGRAM, IN A SANDBOX (cutbox-door.mjs). By AI agents, Wed Nov 11 2026. No macro, syntax, notation, axiom, sorry.
-/
import Derived.Test.YtioapcamanmoiaaGreatDoorRows
import GoSem.ClaimSeven
namespace Go.Proofs.YtioapcamanmoiaaGreatDoor
namespace Rows

/-- THE TIED CARD OF 'wagonpoollaw14.BookAcceptMatchesReference'. -/
def bookAcceptMatchesReferenceCard : Claim7 := { stood := { row := bookAcceptMatchesReferenceRow, standIns := [], harness := (true, "458d4fbcc6102551507b443c65690f32c7fb031f458890ac13b613ec9ffe324e"), looks := true }, kinds := [], alts := [], laidByText := true, laidKinds := [.data], laidTests := true, laidLooks := .later }
def BookAcceptMatchesReferenceCardSaid : Prop := Claim7.holds Tryz.pinned (.plain (OpenSpec.ofChange bookAcceptMatchesReferenceSpec)) bookAcceptMatchesReferenceCard

/-- THE TIED CARD OF 'wagonpoollaw14.BookRefusesForgery'. -/
def bookRefusesForgeryCard : Claim7 := { stood := { row := bookRefusesForgeryRow, standIns := [], harness := (true, "458d4fbcc6102551507b443c65690f32c7fb031f458890ac13b613ec9ffe324e"), looks := true }, kinds := [], alts := [], laidByText := true, laidKinds := [.data], laidTests := true, laidLooks := .later }
def BookRefusesForgeryCardSaid : Prop := Claim7.holds Tryz.pinned (.plain (OpenSpec.ofChange bookRefusesForgerySpec)) bookRefusesForgeryCard

/-- THE TIED CARD OF 'wagonpoollaw14.BookRoundTrip'. -/
def bookRoundTripCard : Claim7 := { stood := { row := bookRoundTripRow, standIns := [], harness := (true, "458d4fbcc6102551507b443c65690f32c7fb031f458890ac13b613ec9ffe324e"), looks := true }, kinds := [], alts := [], laidByText := true, laidKinds := [.data], laidTests := true, laidLooks := .later }
def BookRoundTripCardSaid : Prop := Claim7.holds Tryz.pinned (.plain (OpenSpec.ofChange bookRoundTripSpec)) bookRoundTripCard

/-- THE SECOND FORM's CARD OF 'wagonpoollaw14.BookAcceptMatchesReference'. -/
def bookAcceptMatchesReferenceUptoCard : Claim7 := { stood := { row := bookAcceptMatchesReferenceUptoRow, standIns := [], harness := (true, "458d4fbcc6102551507b443c65690f32c7fb031f458890ac13b613ec9ffe324e"), looks := true }, kinds := [], alts := [], laidByText := true, laidKinds := [.data], laidTests := true, laidLooks := .later }
def BookAcceptMatchesReferenceUptoCardSaid : Prop := Claim7.holds Tryz.pinned (.plain (OpenSpec.upto bookAcceptMatchesReferenceSpec)) bookAcceptMatchesReferenceUptoCard

/-- THE SECOND FORM's CARD OF 'wagonpoollaw14.BookRefusesForgery'. -/
def bookRefusesForgeryUptoCard : Claim7 := { stood := { row := bookRefusesForgeryUptoRow, standIns := [], harness := (true, "458d4fbcc6102551507b443c65690f32c7fb031f458890ac13b613ec9ffe324e"), looks := true }, kinds := [], alts := [], laidByText := true, laidKinds := [.data], laidTests := true, laidLooks := .later }
def BookRefusesForgeryUptoCardSaid : Prop := Claim7.holds Tryz.pinned (.plain (OpenSpec.upto bookRefusesForgerySpec)) bookRefusesForgeryUptoCard

/-- THE SECOND FORM's CARD OF 'wagonpoollaw14.BookRoundTrip'. -/
def bookRoundTripUptoCard : Claim7 := { stood := { row := bookRoundTripUptoRow, standIns := [], harness := (true, "458d4fbcc6102551507b443c65690f32c7fb031f458890ac13b613ec9ffe324e"), looks := true }, kinds := [], alts := [], laidByText := true, laidKinds := [.data], laidTests := true, laidLooks := .later }
def BookRoundTripUptoCardSaid : Prop := Claim7.holds Tryz.pinned (.plain (OpenSpec.upto bookRoundTripSpec)) bookRoundTripUptoCard
end Rows
end Go.Proofs.YtioapcamanmoiaaGreatDoor
