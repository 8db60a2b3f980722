/-
  DERIVED. GIVEN WITH THE SEED: THE PROGRAM's TIES (one call each: nine closed facts by the kernel) AND EACH ROW's TIE, after the 31st guide's Derived/Test/Toyas{Tie, Card}.lean. No idea stands in it: it is a product of the set-up. Laid BY PROGRAM, IN A SANDBOX (cutbox-door.mjs). By AI agents, Wed Nov 11 2026. No macro, syntax, notation, axiom, sorry.
-/
import Derived.Test.YtballlkeogmoiaaDoorRows
import Derived.LaidByTextLater
import Derived.SevenTiedAt
import Derived.LaidSub
import Derived.LaidOnce
namespace Go.Proofs.YtballlkeogmoiaaDoor
open Go
set_option maxRecDepth 100000
theorem seatTie1 : Tryd.prog.laidByTextLater [("math/bits.deBruijn32tab", Rows.laid_math_bits_deBruijn32tab), ("math/bits.deBruijn64tab", Rows.laid_math_bits_deBruijn64tab), ("internal/strconv.uint64pow10", Rows.laid_internal_strconv_uint64pow10), ("wagonpool/tlex.signs", Rows.laid_wagonpool_tlex_signs), ("wagonpool/tlex.reserved", Rows.laid_wagonpool_tlex_reserved)] [.data, .data, .data, .mapped, .mapped] true :=
  Program.laidByTextLater_by_one 289 8 65 (by kernel_rfl) (by kernel_rfl) (by kernel_rfl) (by kernel_rfl) (by kernel_rfl) (by kernel_rfl) (fun _ _ => by kernel_rfl)
theorem noOwnUnsafe : Tryd.pinned.checked.prog.headLifts.contains "ownunsafe" = false := by kernel_rfl
theorem tie : Tryd.prog.laidByTextLater [("wagonpool/tlex.signs", Rows.laid_wagonpool_tlex_signs), ("wagonpool/tlex.reserved", Rows.laid_wagonpool_tlex_reserved)] [.mapped, .mapped] true :=
  Program.laidByTextLater.sub seatTie1 ["wagonpool/tlex.signs", "wagonpool/tlex.reserved"] (by kernel_rfl) (by kernel_rfl)
theorem tlexMatches_row_tie : Rows.tlexMatchesRow.laidByTextAt .later Tryd.pinned [.mapped, .mapped] true :=
  OpenClaim.laidByTextAt_later rfl rfl tie noOwnUnsafe
theorem tlexMatchesText_row_tie : Rows.tlexMatchesTextRow.laidByTextAt .later Tryd.pinned [.mapped, .mapped] true :=
  OpenClaim.laidByTextAt_later rfl rfl tie noOwnUnsafe
theorem tlexRoundTrip_row_tie : Rows.tlexRoundTripRow.laidByTextAt .later Tryd.pinned [.mapped, .mapped] true :=
  OpenClaim.laidByTextAt_later rfl rfl tie noOwnUnsafe
theorem tlexCovers_row_tie : Rows.tlexCoversRow.laidByTextAt .later Tryd.pinned [.mapped, .mapped] true :=
  OpenClaim.laidByTextAt_later rfl rfl tie noOwnUnsafe
theorem tlexJoins_row_tie : Rows.tlexJoinsRow.laidByTextAt .later Tryd.pinned [.mapped, .mapped] true :=
  OpenClaim.laidByTextAt_later rfl rfl tie noOwnUnsafe
theorem tlexBlanks_row_tie : Rows.tlexBlanksRow.laidByTextAt .later Tryd.pinned [.mapped, .mapped] true :=
  OpenClaim.laidByTextAt_later rfl rfl tie noOwnUnsafe
theorem tie2 : Tryd.prog.laidByTextLater [("math/bits.deBruijn32tab", Rows.laid_math_bits_deBruijn32tab), ("math/bits.deBruijn64tab", Rows.laid_math_bits_deBruijn64tab), ("internal/strconv.uint64pow10", Rows.laid_internal_strconv_uint64pow10), ("wagonpool/tlex.signs", Rows.laid_wagonpool_tlex_signs), ("wagonpool/tlex.reserved", Rows.laid_wagonpool_tlex_reserved)] [.data, .data, .data, .mapped, .mapped] true :=
  Program.laidByTextLater.sub seatTie1 ["math/bits.deBruijn32tab", "math/bits.deBruijn64tab", "internal/strconv.uint64pow10", "wagonpool/tlex.signs", "wagonpool/tlex.reserved"] (by kernel_rfl) (by kernel_rfl)
theorem tlexNumbers_row_tie : Rows.tlexNumbersRow.laidByTextAt .later Tryd.pinned [.data, .data, .data, .mapped, .mapped] true :=
  OpenClaim.laidByTextAt_later rfl rfl tie2 noOwnUnsafe
theorem tlexMatchesUpto_row_tie : Rows.tlexMatchesUptoRow.laidByTextAt .later Tryd.pinned [.mapped, .mapped] true :=
  OpenClaim.laidByTextAt_later rfl rfl tie noOwnUnsafe
theorem tlexMatchesTextUpto_row_tie : Rows.tlexMatchesTextUptoRow.laidByTextAt .later Tryd.pinned [.mapped, .mapped] true :=
  OpenClaim.laidByTextAt_later rfl rfl tie noOwnUnsafe
theorem tlexRoundTripUpto_row_tie : Rows.tlexRoundTripUptoRow.laidByTextAt .later Tryd.pinned [.mapped, .mapped] true :=
  OpenClaim.laidByTextAt_later rfl rfl tie noOwnUnsafe
theorem tlexCoversUpto_row_tie : Rows.tlexCoversUptoRow.laidByTextAt .later Tryd.pinned [.mapped, .mapped] true :=
  OpenClaim.laidByTextAt_later rfl rfl tie noOwnUnsafe
theorem tlexJoinsUpto_row_tie : Rows.tlexJoinsUptoRow.laidByTextAt .later Tryd.pinned [.mapped, .mapped] true :=
  OpenClaim.laidByTextAt_later rfl rfl tie noOwnUnsafe
theorem tlexBlanksUpto_row_tie : Rows.tlexBlanksUptoRow.laidByTextAt .later Tryd.pinned [.mapped, .mapped] true :=
  OpenClaim.laidByTextAt_later rfl rfl tie noOwnUnsafe
theorem tlexNumbersUpto_row_tie : Rows.tlexNumbersUptoRow.laidByTextAt .later Tryd.pinned [.data, .data, .data, .mapped, .mapped] true :=
  OpenClaim.laidByTextAt_later rfl rfl tie2 noOwnUnsafe
end Go.Proofs.YtballlkeogmoiaaDoor
