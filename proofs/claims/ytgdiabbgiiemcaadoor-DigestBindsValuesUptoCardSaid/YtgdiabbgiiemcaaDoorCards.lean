/-
  DERIVED. GIVEN WITH THE SEED: THE CARDS: each row of YtgdiabbgiiemcaaDoorRows.lean that lists a variable, with what it lists TIED to the program's text (the seventh form; the later family's looks); each row that meets fmt, with fmt's text TOLD by the authors' own Lean function (tested against real Go, not proved from fmt's source: count such statements apart). THE CARD IS WHAT COUNTS. Prove the row's statement (the work); the ties are given (YtgdiabbgiiemcaaDoorTie.lean); close each card by the builder's one call (the guide's Derived/Test/ToyasCard.lean, 'card_holds'). Laid BY PROGRAM, IN A SANDBOX (cutbox-door.mjs). By AI agents, Wed Nov 11 2026. No macro, syntax, notation, axiom, sorry.
-/
import Derived.Test.YtgdiabbgiiemcaaDoorRows
import GoSem.ClaimSeven
namespace Go.Proofs.YtgdiabbgiiemcaaDoor
namespace Rows

/-- THE TIED CARD OF 'wagonpoollaw02.DigestSumMatchesReference'. -/
def digestSumMatchesReferenceCard : Claim7 := { stood := { row := digestSumMatchesReferenceRow, standIns := [], harness := (true, "a1c244332572b145f00de350d6ccd962b4588ef0f273993736dea75cc4c474ad"), looks := false }, kinds := [], alts := [], laidByText := true, laidKinds := [.data], laidTests := true, laidLooks := .later }
def DigestSumMatchesReferenceCardSaid : Prop := Claim7.holds Tryd.pinned (.plain (OpenSpec.ofChange digestSumMatchesReferenceSpec)) digestSumMatchesReferenceCard

/-- THE TIED CARD OF 'wagonpoollaw02.DigestMatchesReference'. -/
def digestMatchesReferenceCard : Claim7 := { stood := { row := digestMatchesReferenceRow, standIns := [], harness := (true, "a1c244332572b145f00de350d6ccd962b4588ef0f273993736dea75cc4c474ad"), looks := false }, kinds := [], alts := [], laidByText := true, laidKinds := [.data], laidTests := true, laidLooks := .later }
def DigestMatchesReferenceCardSaid : Prop := Claim7.holds Tryd.pinned (.plain (OpenSpec.ofChange digestMatchesReferenceSpec)) digestMatchesReferenceCard

/-- THE TIED CARD OF 'wagonpoollaw02.DigestTaggedIsSum'. -/
def digestTaggedIsSumCard : Claim7 := { stood := { row := digestTaggedIsSumRow, standIns := [], harness := (true, "a1c244332572b145f00de350d6ccd962b4588ef0f273993736dea75cc4c474ad"), looks := false }, kinds := [], alts := [], laidByText := true, laidKinds := [.data], laidTests := true, laidLooks := .later }
def DigestTaggedIsSumCardSaid : Prop := Claim7.holds Tryd.pinned (.plain (OpenSpec.ofChange digestTaggedIsSumSpec)) digestTaggedIsSumCard

/-- THE TIED CARD OF 'wagonpoollaw02.DigestTagsSeparate'. -/
def digestTagsSeparateCard : Claim7 := { stood := { row := digestTagsSeparateRow, standIns := [], harness := (true, "a1c244332572b145f00de350d6ccd962b4588ef0f273993736dea75cc4c474ad"), looks := false }, kinds := [], alts := [], laidByText := true, laidKinds := [.data], laidTests := true, laidLooks := .later }
def DigestTagsSeparateCardSaid : Prop := Claim7.holds Tryd.pinned (.plain (OpenSpec.ofChange digestTagsSeparateSpec)) digestTagsSeparateCard

/-- THE TIED CARD OF 'wagonpoollaw02.DigestValues'. -/
def digestValuesCard : Claim7 := { stood := { row := digestValuesRow, standIns := [], harness := (true, "a1c244332572b145f00de350d6ccd962b4588ef0f273993736dea75cc4c474ad"), looks := false }, kinds := [], alts := [], laidByText := true, laidKinds := [.data], laidTests := true, laidLooks := .later }
def DigestValuesCardSaid : Prop := Claim7.holds Tryd.pinned (.plain (OpenSpec.ofChange digestValuesSpec)) digestValuesCard

/-- THE TIED CARD OF 'wagonpoollaw02.DigestChainBinds'. -/
def digestChainBindsCard : Claim7 := { stood := { row := digestChainBindsRow, standIns := [], harness := (true, "a1c244332572b145f00de350d6ccd962b4588ef0f273993736dea75cc4c474ad"), looks := false }, kinds := [], alts := [], laidByText := true, laidKinds := [.data], laidTests := true, laidLooks := .later }
def DigestChainBindsCardSaid : Prop := Claim7.holds Tryd.pinned (.plain (OpenSpec.ofChange digestChainBindsSpec)) digestChainBindsCard

/-- THE TIED CARD OF 'wagonpoollaw02.DigestNumbers'. -/
def digestNumbersCard : Claim7 := { stood := { row := digestNumbersRow, standIns := [], harness := (true, "a1c244332572b145f00de350d6ccd962b4588ef0f273993736dea75cc4c474ad"), looks := false }, kinds := [], alts := [], laidByText := true, laidKinds := [.data], laidTests := true, laidLooks := .later }
def DigestNumbersCardSaid : Prop := Claim7.holds Tryd.pinned (.plain (OpenSpec.ofChange digestNumbersSpec)) digestNumbersCard

/-- THE TIED CARD OF 'wagonpoollaw02.DigestBindsValues'. -/
def digestBindsValuesCard : Claim7 := { stood := { row := digestBindsValuesRow, standIns := [], harness := (true, "a1c244332572b145f00de350d6ccd962b4588ef0f273993736dea75cc4c474ad"), looks := false }, kinds := [], alts := [], laidByText := true, laidKinds := [.data], laidTests := true, laidLooks := .later }
def DigestBindsValuesCardSaid : Prop := Claim7.holds Tryd.pinned (.plain (OpenSpec.ofChange digestBindsValuesSpec)) digestBindsValuesCard

/-- THE SECOND FORM's CARD OF 'wagonpoollaw02.DigestSumMatchesReference'. -/
def digestSumMatchesReferenceUptoCard : Claim7 := { stood := { row := digestSumMatchesReferenceUptoRow, standIns := [], harness := (true, "a1c244332572b145f00de350d6ccd962b4588ef0f273993736dea75cc4c474ad"), looks := false }, kinds := [], alts := [], laidByText := true, laidKinds := [.data], laidTests := true, laidLooks := .later }
def DigestSumMatchesReferenceUptoCardSaid : Prop := Claim7.holds Tryd.pinned (.plain (OpenSpec.upto digestSumMatchesReferenceSpec)) digestSumMatchesReferenceUptoCard

/-- THE SECOND FORM's CARD OF 'wagonpoollaw02.DigestMatchesReference'. -/
def digestMatchesReferenceUptoCard : Claim7 := { stood := { row := digestMatchesReferenceUptoRow, standIns := [], harness := (true, "a1c244332572b145f00de350d6ccd962b4588ef0f273993736dea75cc4c474ad"), looks := false }, kinds := [], alts := [], laidByText := true, laidKinds := [.data], laidTests := true, laidLooks := .later }
def DigestMatchesReferenceUptoCardSaid : Prop := Claim7.holds Tryd.pinned (.plain (OpenSpec.upto digestMatchesReferenceSpec)) digestMatchesReferenceUptoCard

/-- THE SECOND FORM's CARD OF 'wagonpoollaw02.DigestTaggedIsSum'. -/
def digestTaggedIsSumUptoCard : Claim7 := { stood := { row := digestTaggedIsSumUptoRow, standIns := [], harness := (true, "a1c244332572b145f00de350d6ccd962b4588ef0f273993736dea75cc4c474ad"), looks := false }, kinds := [], alts := [], laidByText := true, laidKinds := [.data], laidTests := true, laidLooks := .later }
def DigestTaggedIsSumUptoCardSaid : Prop := Claim7.holds Tryd.pinned (.plain (OpenSpec.upto digestTaggedIsSumSpec)) digestTaggedIsSumUptoCard

/-- THE SECOND FORM's CARD OF 'wagonpoollaw02.DigestTagsSeparate'. -/
def digestTagsSeparateUptoCard : Claim7 := { stood := { row := digestTagsSeparateUptoRow, standIns := [], harness := (true, "a1c244332572b145f00de350d6ccd962b4588ef0f273993736dea75cc4c474ad"), looks := false }, kinds := [], alts := [], laidByText := true, laidKinds := [.data], laidTests := true, laidLooks := .later }
def DigestTagsSeparateUptoCardSaid : Prop := Claim7.holds Tryd.pinned (.plain (OpenSpec.upto digestTagsSeparateSpec)) digestTagsSeparateUptoCard

/-- THE SECOND FORM's CARD OF 'wagonpoollaw02.DigestValues'. -/
def digestValuesUptoCard : Claim7 := { stood := { row := digestValuesUptoRow, standIns := [], harness := (true, "a1c244332572b145f00de350d6ccd962b4588ef0f273993736dea75cc4c474ad"), looks := false }, kinds := [], alts := [], laidByText := true, laidKinds := [.data], laidTests := true, laidLooks := .later }
def DigestValuesUptoCardSaid : Prop := Claim7.holds Tryd.pinned (.plain (OpenSpec.upto digestValuesSpec)) digestValuesUptoCard

/-- THE SECOND FORM's CARD OF 'wagonpoollaw02.DigestChainBinds'. -/
def digestChainBindsUptoCard : Claim7 := { stood := { row := digestChainBindsUptoRow, standIns := [], harness := (true, "a1c244332572b145f00de350d6ccd962b4588ef0f273993736dea75cc4c474ad"), looks := false }, kinds := [], alts := [], laidByText := true, laidKinds := [.data], laidTests := true, laidLooks := .later }
def DigestChainBindsUptoCardSaid : Prop := Claim7.holds Tryd.pinned (.plain (OpenSpec.upto digestChainBindsSpec)) digestChainBindsUptoCard

/-- THE SECOND FORM's CARD OF 'wagonpoollaw02.DigestNumbers'. -/
def digestNumbersUptoCard : Claim7 := { stood := { row := digestNumbersUptoRow, standIns := [], harness := (true, "a1c244332572b145f00de350d6ccd962b4588ef0f273993736dea75cc4c474ad"), looks := false }, kinds := [], alts := [], laidByText := true, laidKinds := [.data], laidTests := true, laidLooks := .later }
def DigestNumbersUptoCardSaid : Prop := Claim7.holds Tryd.pinned (.plain (OpenSpec.upto digestNumbersSpec)) digestNumbersUptoCard

/-- THE SECOND FORM's CARD OF 'wagonpoollaw02.DigestBindsValues'. -/
def digestBindsValuesUptoCard : Claim7 := { stood := { row := digestBindsValuesUptoRow, standIns := [], harness := (true, "a1c244332572b145f00de350d6ccd962b4588ef0f273993736dea75cc4c474ad"), looks := false }, kinds := [], alts := [], laidByText := true, laidKinds := [.data], laidTests := true, laidLooks := .later }
def DigestBindsValuesUptoCardSaid : Prop := Claim7.holds Tryd.pinned (.plain (OpenSpec.upto digestBindsValuesSpec)) digestBindsValuesUptoCard
end Rows
end Go.Proofs.YtgdiabbgiiemcaaDoor
