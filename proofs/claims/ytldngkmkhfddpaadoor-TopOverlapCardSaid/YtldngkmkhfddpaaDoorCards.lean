/-
  DERIVED. GIVEN WITH THE SEED: THE CARDS: each row of YtldngkmkhfddpaaDoorRows.lean that lists a variable, with what it lists TIED to the program's text (the seventh form; the later family's looks); each row that meets fmt, with fmt's text TOLD by the authors' own Lean function (tested against real Go, not proved from fmt's source: count such statements apart). THE CARD IS WHAT COUNTS. Prove the row's statement (the work); the ties are given (YtldngkmkhfddpaaDoorTie.lean); close each card by the builder's one call (the guide's Derived/Test/ToyasCard.lean, 'card_holds'). Laid BY PROGRAM, IN A SANDBOX (cutbox-door.mjs). By AI agents, Wed Nov 11 2026. No macro, syntax, notation, axiom, sorry.
-/
import Derived.Test.YtldngkmkhfddpaaDoorRows
import GoSem.ClaimSeven
namespace Go.Proofs.YtldngkmkhfddpaaDoor
namespace Rows

/-- THE TIED CARD OF 'wagonpooltop.TopOverlap'. -/
def topOverlapCard : Claim7 := { stood := { row := topOverlapRow, standIns := [], harness := (true, "9c2e67090816cec1863c963b2256bb49039225d3212797125bcac6eb1eb563db"), looks := true }, kinds := [], alts := [], laidByText := true, laidKinds := [.listed, .data, .mapped, .mapped], laidTests := true, laidLooks := .later }
def TopOverlapCardSaid : Prop := Claim7.holds Tryd.pinned (.plain (OpenSpec.ofChange topOverlapSpec)) topOverlapCard

/-- THE SECOND FORM's CARD OF 'wagonpooltop.TopOverlap'. -/
def topOverlapUptoCard : Claim7 := { stood := { row := topOverlapUptoRow, standIns := [], harness := (true, "9c2e67090816cec1863c963b2256bb49039225d3212797125bcac6eb1eb563db"), looks := true }, kinds := [], alts := [], laidByText := true, laidKinds := [.listed, .data, .mapped, .mapped], laidTests := true, laidLooks := .later }
def TopOverlapUptoCardSaid : Prop := Claim7.holds Tryd.pinned (.plain (OpenSpec.upto topOverlapSpec)) topOverlapUptoCard
end Rows
end Go.Proofs.YtldngkmkhfddpaaDoor
