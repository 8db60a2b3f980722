/-
  Part 31.
-/
import Derived.Test.YtnfoiocigicdnaaGreatDoorYF30
import Derived.Lib.ItoaNum
namespace Go.Rv
set_option linter.unusedVariables false
def Ahz (n : Int) : Option (List UInt8) := if -9223372036854775808 ≤ n ∧ n ≤ 9223372036854775807 then some (Lib.itoa n) else none
end Go.Rv
