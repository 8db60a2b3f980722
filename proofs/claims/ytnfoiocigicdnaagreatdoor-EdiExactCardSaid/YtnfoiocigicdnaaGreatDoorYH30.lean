/-
  Part 30.
-/
import Derived.Test.YtnfoiocigicdnaaGreatDoorYH29
import Derived.Lib.ItoaNum
namespace Go.Rv
set_option linter.unusedVariables false
def Ao0 (n : Int) : Option (List UInt8):=if -9223372036854775808≤n∧n≤9223372036854775807 then some (Lib.itoa n) else none
end Go.Rv
