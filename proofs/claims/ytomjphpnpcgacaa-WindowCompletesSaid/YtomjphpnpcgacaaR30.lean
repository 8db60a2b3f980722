/-
  R30: an input that fits a row with listed variables and a condition, at a world that is written out.
-/
import Derived.Test.YtomjphpnpcgacaaR29
import Derived.LaidMore
import Derived.Lay
import Derived.Deep.DeepHandedRow
namespace Go.Rv
set_option linter.unusedVariables false

end Go.Rv
