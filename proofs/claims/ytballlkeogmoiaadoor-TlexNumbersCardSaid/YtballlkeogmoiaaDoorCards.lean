/-
  DERIVED. GIVEN WITH THE SEED: THE CARDS: each row of YtballlkeogmoiaaDoorRows.lean that lists a variable, with what it lists TIED to the program's text (the seventh form; the later family's looks); each row that meets fmt, with fmt's text TOLD by the authors' own Lean function (tested against real Go, not proved from fmt's source: count such statements apart). THE CARD IS WHAT COUNTS. Prove the row's statement (the work); the ties are given (YtballlkeogmoiaaDoorTie.lean); close each card by the builder's one call (the guide's Derived/Test/ToyasCard.lean, 'card_holds'). Laid BY PROGRAM, IN A SANDBOX (cutbox-door.mjs). By AI agents, Wed Nov 11 2026. No macro, syntax, notation, axiom, sorry.
-/
import Derived.Test.YtballlkeogmoiaaDoorRows
import GoSem.ClaimSeven
namespace Go.Proofs.YtballlkeogmoiaaDoor
namespace Rows

/-- THE TIED CARD OF 'wagonpoollaw15.TlexMatches'. -/
def tlexMatchesCard : Claim7 := { stood := { row := tlexMatchesRow, standIns := [], harness := (true, "a4ddf060793f7cfb00ed28f1246388e6b583351a8da7ab14a2dddaa4028344c3"), looks := false }, kinds := [], alts := [], laidByText := true, laidKinds := [.mapped, .mapped], laidTests := true, laidLooks := .later }
def TlexMatchesCardSaid : Prop := Claim7.holds Tryd.pinned (.plain (OpenSpec.ofChange tlexMatchesSpec)) tlexMatchesCard

/-- THE TIED CARD OF 'wagonpoollaw15.TlexMatchesText'. -/
def tlexMatchesTextCard : Claim7 := { stood := { row := tlexMatchesTextRow, standIns := [], harness := (true, "a4ddf060793f7cfb00ed28f1246388e6b583351a8da7ab14a2dddaa4028344c3"), looks := false }, kinds := [], alts := [], laidByText := true, laidKinds := [.mapped, .mapped], laidTests := true, laidLooks := .later }
def TlexMatchesTextCardSaid : Prop := Claim7.holds Tryd.pinned (.plain (OpenSpec.ofChange tlexMatchesTextSpec)) tlexMatchesTextCard

/-- THE TIED CARD OF 'wagonpoollaw15.TlexRoundTrip'. -/
def tlexRoundTripCard : Claim7 := { stood := { row := tlexRoundTripRow, standIns := [], harness := (true, "a4ddf060793f7cfb00ed28f1246388e6b583351a8da7ab14a2dddaa4028344c3"), looks := false }, kinds := [], alts := [], laidByText := true, laidKinds := [.mapped, .mapped], laidTests := true, laidLooks := .later }
def TlexRoundTripCardSaid : Prop := Claim7.holds Tryd.pinned (.plain (OpenSpec.ofChange tlexRoundTripSpec)) tlexRoundTripCard

/-- THE TIED CARD OF 'wagonpoollaw15.TlexCovers'. -/
def tlexCoversCard : Claim7 := { stood := { row := tlexCoversRow, standIns := [], harness := (true, "a4ddf060793f7cfb00ed28f1246388e6b583351a8da7ab14a2dddaa4028344c3"), looks := false }, kinds := [], alts := [], laidByText := true, laidKinds := [.mapped, .mapped], laidTests := true, laidLooks := .later }
def TlexCoversCardSaid : Prop := Claim7.holds Tryd.pinned (.plain (OpenSpec.ofChange tlexCoversSpec)) tlexCoversCard

/-- THE TIED CARD OF 'wagonpoollaw15.TlexJoins'. -/
def tlexJoinsCard : Claim7 := { stood := { row := tlexJoinsRow, standIns := [], harness := (true, "a4ddf060793f7cfb00ed28f1246388e6b583351a8da7ab14a2dddaa4028344c3"), looks := false }, kinds := [], alts := [], laidByText := true, laidKinds := [.mapped, .mapped], laidTests := true, laidLooks := .later }
def TlexJoinsCardSaid : Prop := Claim7.holds Tryd.pinned (.plain (OpenSpec.ofChange tlexJoinsSpec)) tlexJoinsCard

/-- THE TIED CARD OF 'wagonpoollaw15.TlexBlanks'. -/
def tlexBlanksCard : Claim7 := { stood := { row := tlexBlanksRow, standIns := [], harness := (true, "a4ddf060793f7cfb00ed28f1246388e6b583351a8da7ab14a2dddaa4028344c3"), looks := false }, kinds := [], alts := [], laidByText := true, laidKinds := [.mapped, .mapped], laidTests := true, laidLooks := .later }
def TlexBlanksCardSaid : Prop := Claim7.holds Tryd.pinned (.plain (OpenSpec.ofChange tlexBlanksSpec)) tlexBlanksCard

/-- THE TIED CARD OF 'wagonpoollaw15.TlexNumbers'. -/
def tlexNumbersCard : Claim7 := { stood := { row := tlexNumbersRow, standIns := [], harness := (true, "a4ddf060793f7cfb00ed28f1246388e6b583351a8da7ab14a2dddaa4028344c3"), looks := false }, kinds := [], alts := [], laidByText := true, laidKinds := [.data, .data, .data, .mapped, .mapped], laidTests := true, laidLooks := .later }
def TlexNumbersCardSaid : Prop := Claim7.holds Tryd.pinned (.plain (OpenSpec.ofChange tlexNumbersSpec)) tlexNumbersCard

/-- THE SECOND FORM's CARD OF 'wagonpoollaw15.TlexMatches'. -/
def tlexMatchesUptoCard : Claim7 := { stood := { row := tlexMatchesUptoRow, standIns := [], harness := (true, "a4ddf060793f7cfb00ed28f1246388e6b583351a8da7ab14a2dddaa4028344c3"), looks := false }, kinds := [], alts := [], laidByText := true, laidKinds := [.mapped, .mapped], laidTests := true, laidLooks := .later }
def TlexMatchesUptoCardSaid : Prop := Claim7.holds Tryd.pinned (.plain (OpenSpec.upto tlexMatchesSpec)) tlexMatchesUptoCard

/-- THE SECOND FORM's CARD OF 'wagonpoollaw15.TlexMatchesText'. -/
def tlexMatchesTextUptoCard : Claim7 := { stood := { row := tlexMatchesTextUptoRow, standIns := [], harness := (true, "a4ddf060793f7cfb00ed28f1246388e6b583351a8da7ab14a2dddaa4028344c3"), looks := false }, kinds := [], alts := [], laidByText := true, laidKinds := [.mapped, .mapped], laidTests := true, laidLooks := .later }
def TlexMatchesTextUptoCardSaid : Prop := Claim7.holds Tryd.pinned (.plain (OpenSpec.upto tlexMatchesTextSpec)) tlexMatchesTextUptoCard

/-- THE SECOND FORM's CARD OF 'wagonpoollaw15.TlexRoundTrip'. -/
def tlexRoundTripUptoCard : Claim7 := { stood := { row := tlexRoundTripUptoRow, standIns := [], harness := (true, "a4ddf060793f7cfb00ed28f1246388e6b583351a8da7ab14a2dddaa4028344c3"), looks := false }, kinds := [], alts := [], laidByText := true, laidKinds := [.mapped, .mapped], laidTests := true, laidLooks := .later }
def TlexRoundTripUptoCardSaid : Prop := Claim7.holds Tryd.pinned (.plain (OpenSpec.upto tlexRoundTripSpec)) tlexRoundTripUptoCard

/-- THE SECOND FORM's CARD OF 'wagonpoollaw15.TlexCovers'. -/
def tlexCoversUptoCard : Claim7 := { stood := { row := tlexCoversUptoRow, standIns := [], harness := (true, "a4ddf060793f7cfb00ed28f1246388e6b583351a8da7ab14a2dddaa4028344c3"), looks := false }, kinds := [], alts := [], laidByText := true, laidKinds := [.mapped, .mapped], laidTests := true, laidLooks := .later }
def TlexCoversUptoCardSaid : Prop := Claim7.holds Tryd.pinned (.plain (OpenSpec.upto tlexCoversSpec)) tlexCoversUptoCard

/-- THE SECOND FORM's CARD OF 'wagonpoollaw15.TlexJoins'. -/
def tlexJoinsUptoCard : Claim7 := { stood := { row := tlexJoinsUptoRow, standIns := [], harness := (true, "a4ddf060793f7cfb00ed28f1246388e6b583351a8da7ab14a2dddaa4028344c3"), looks := false }, kinds := [], alts := [], laidByText := true, laidKinds := [.mapped, .mapped], laidTests := true, laidLooks := .later }
def TlexJoinsUptoCardSaid : Prop := Claim7.holds Tryd.pinned (.plain (OpenSpec.upto tlexJoinsSpec)) tlexJoinsUptoCard

/-- THE SECOND FORM's CARD OF 'wagonpoollaw15.TlexBlanks'. -/
def tlexBlanksUptoCard : Claim7 := { stood := { row := tlexBlanksUptoRow, standIns := [], harness := (true, "a4ddf060793f7cfb00ed28f1246388e6b583351a8da7ab14a2dddaa4028344c3"), looks := false }, kinds := [], alts := [], laidByText := true, laidKinds := [.mapped, .mapped], laidTests := true, laidLooks := .later }
def TlexBlanksUptoCardSaid : Prop := Claim7.holds Tryd.pinned (.plain (OpenSpec.upto tlexBlanksSpec)) tlexBlanksUptoCard

/-- THE SECOND FORM's CARD OF 'wagonpoollaw15.TlexNumbers'. -/
def tlexNumbersUptoCard : Claim7 := { stood := { row := tlexNumbersUptoRow, standIns := [], harness := (true, "a4ddf060793f7cfb00ed28f1246388e6b583351a8da7ab14a2dddaa4028344c3"), looks := false }, kinds := [], alts := [], laidByText := true, laidKinds := [.data, .data, .data, .mapped, .mapped], laidTests := true, laidLooks := .later }
def TlexNumbersUptoCardSaid : Prop := Claim7.holds Tryd.pinned (.plain (OpenSpec.upto tlexNumbersSpec)) tlexNumbersUptoCard
end Rows
end Go.Proofs.YtballlkeogmoiaaDoor
