/-
  R38: decimal numerals.
-/
import Derived.Test.YtomjphpnpcgacaaR37
import Derived.Lib.ItoaNum
namespace Go.Rv
set_option linter.unusedVariables false

end Go.Rv
