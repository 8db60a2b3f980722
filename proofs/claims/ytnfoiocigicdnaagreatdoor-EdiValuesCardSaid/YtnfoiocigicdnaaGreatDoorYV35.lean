/-
  Part 35.
-/
import Derived.Test.YtnfoiocigicdnaaGreatDoorYV34
import Derived.Lib.ItoaNum
namespace Go.Rv
set_option linter.unusedVariables false
def AkL (n : Int) : Option (List UInt8) := if -9223372036854775808 ≤ n ∧ n ≤ 9223372036854775807 then some (Lib.itoa n) else none
end Go.Rv
