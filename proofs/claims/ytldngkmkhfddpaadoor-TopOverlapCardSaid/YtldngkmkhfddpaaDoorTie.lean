/-
  DERIVED. GIVEN WITH THE SEED: THE PROGRAM's TIES (one call each: nine closed facts by the kernel) AND EACH ROW's TIE, after the 31st guide's Derived/Test/Toyas{Tie, Card}.lean. No idea stands in it: it is a product of the set-up. Laid BY PROGRAM, IN A SANDBOX (cutbox-door.mjs). By AI agents, Wed Nov 11 2026. No macro, syntax, notation, axiom, sorry.
-/
import Derived.Test.YtldngkmkhfddpaaDoorRows
import Derived.LaidByTextLater
import Derived.SevenTiedAt
import Derived.LaidSub
import Derived.LaidOnce
namespace Go.Proofs.YtldngkmkhfddpaaDoor
open Go
set_option maxRecDepth 100000
theorem seatTie1 : Tryd.prog.laidByTextLater [("unicode.White_Space", Rows.laid_unicode_White_Space), ("strings.asciiSpace", Rows.laid_strings_asciiSpace), ("wagonpool/tlex.signs", Rows.laid_wagonpool_tlex_signs), ("wagonpool/tlex.reserved", Rows.laid_wagonpool_tlex_reserved)] [.listed, .data, .mapped, .mapped] true :=
  Program.laidByTextLater_by_one 298 8 257 (by kernel_rfl) (by kernel_rfl) (by kernel_rfl) (by kernel_rfl) (by kernel_rfl) (by kernel_rfl) (fun _ _ => by kernel_rfl)
theorem noOwnUnsafe : Tryd.pinned.checked.prog.headLifts.contains "ownunsafe" = false := by kernel_rfl
theorem tie : Tryd.prog.laidByTextLater [("unicode.White_Space", Rows.laid_unicode_White_Space), ("strings.asciiSpace", Rows.laid_strings_asciiSpace), ("wagonpool/tlex.signs", Rows.laid_wagonpool_tlex_signs), ("wagonpool/tlex.reserved", Rows.laid_wagonpool_tlex_reserved)] [.listed, .data, .mapped, .mapped] true :=
  Program.laidByTextLater.sub seatTie1 ["unicode.White_Space", "strings.asciiSpace", "wagonpool/tlex.signs", "wagonpool/tlex.reserved"] (by kernel_rfl) (by kernel_rfl)
theorem topOverlap_row_tie : Rows.topOverlapRow.laidByTextAt .later Tryd.pinned [.listed, .data, .mapped, .mapped] true :=
  OpenClaim.laidByTextAt_later rfl rfl tie noOwnUnsafe
theorem topOverlapUpto_row_tie : Rows.topOverlapUptoRow.laidByTextAt .later Tryd.pinned [.listed, .data, .mapped, .mapped] true :=
  OpenClaim.laidByTextAt_later rfl rfl tie noOwnUnsafe
end Go.Proofs.YtldngkmkhfddpaaDoor
