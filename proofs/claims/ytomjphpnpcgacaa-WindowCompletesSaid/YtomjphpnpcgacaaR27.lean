/-
  R27: arrays as arguments of statements.
-/
import Derived.Test.YtomjphpnpcgacaaR26
namespace Go.Rv
set_option linter.unusedVariables false
set_option linter.unusedSimpArgs false

end Go.Rv
