/-
  The published test vectors.
-/
import Derived.Test.YtgdiabbgiiemcaaDoorDP
import Derived.Test.YtgdiabbgiiemcaaDoorR28
namespace Go.Proofs.YtgdiabbgiiemcaaDoor
open Go.Rv
set_option linter.unusedVariables false

theorem sane_ok : law02_sane = some true := by decide +kernel

end Go.Proofs.YtgdiabbgiiemcaaDoor
