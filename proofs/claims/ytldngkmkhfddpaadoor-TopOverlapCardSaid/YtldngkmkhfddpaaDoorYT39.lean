/-
  Part 39.
-/
import Derived.Test.YtldngkmkhfddpaaDoorYT38
import Derived.Lib.AtoiAllCases
import Derived.Lib.UnsafeStr
namespace Go.Rv
open Go.RowKit
set_option linter.unusedVariables false
set_option linter.unusedSimpArgs false
section
variable {E:Env}{w w':World}{g:Gh}{σ:Ad}
end
section
variable {E:Env}
theorem VU{sel:List Nat}{T T':TypeId}{l l':List UInt8}:OH sel (.tb T l) (.tb T' l')=(T=T'∧l=l'):=rfl
theorem Ud{sel:List Nat}{o o':Obj}:OH sel (.obj o) (.obj o')=(o=o'):=rfl
attribute [go_sem] Ud
theorem OI:GF []=some []:=rfl
attribute [go_sem] VU OI PM
theorem Abs{σ:Ad}{v:Value}:fz σ (.val v)=some (.val v):=rfl
attribute [go_sem] Abs
attribute [go_sem] ite_self
section
variable {sel:List Nat}{N:Nat}
end
end
section
variable {P:Program}(w:World)
end
end Go.Rv
