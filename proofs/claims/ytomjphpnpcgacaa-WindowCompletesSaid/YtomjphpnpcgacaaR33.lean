/-
  R33: functions without a body, for which the model answers: byte strings compared, a byte sought.
-/
import Derived.Test.YtomjphpnpcgacaaR32
import Derived.Laws.Externs
namespace Go.Rv
set_option linter.unusedVariables false
set_option linter.unusedSimpArgs false

end Go.Rv
