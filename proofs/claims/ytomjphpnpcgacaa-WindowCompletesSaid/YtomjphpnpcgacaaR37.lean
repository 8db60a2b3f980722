/-
  R37: a map of a package variable, out of the row that lays it.
-/
import Derived.Test.YtomjphpnpcgacaaR36
import Derived.WideKeyElems2
import Derived.Maps.StringElems
import Derived.ChangeKeys
namespace Go.Rv
open Go.WideElems Go.ChangeShapes Go.WideShapes Go.MapKept
set_option linter.unusedVariables false

section
variable {H : Type} {enc : TypeId × Value → H} {P : Program} {base : Nat} {held : Bool} {e k : TypeId}

end
end Go.Rv
