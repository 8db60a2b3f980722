/-
  R35: a function that puts off a closure which catches what the function's body throws.
-/
import Derived.Test.YtomjphpnpcgacaaR34
import Derived.Recover
namespace Go.Rv
set_option linter.unusedVariables false
set_option linter.unusedSimpArgs false

/-! ### Steps of a closure that recovers -/
section
variable {P : Program} {ops : Array Oper} {Q : Exit → Act → List Frame → World → Prop}

end

/-! ### The closure's contract -/
/-! ### The function -/
def slotsOk (f : Operand → AV) : Fr → Prop
  | [] => True
  | p :: l => f (.tmp p.1) = p.2 ∧ slotsOk f l

attribute [go_sem] slotsOk ev_asFr

end Go.Rv
