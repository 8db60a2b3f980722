/-
  Part 39.
-/
import Derived.Test.YtldngkmkhfddpaaDoorYT38
import Derived.Lib.AtoiAllCases
import Derived.Lib.UnsafeStr
namespace Go.Rv
open Go.RowKit
set_option linter.unusedVariables false
set_option linter.unusedSimpArgs false
section
variable {E:Env}{w w':World}{g:Gh}{σ:Ad}
end
section
variable {E:Env}
theorem Xk{sel:List Nat}{T T':TypeId}{l l':List UInt8}:NP sel (.tb T l) (.tb T' l')=(T=T'∧l=l'):=rfl
theorem UZ{sel:List Nat}{o o':Obj}:NP sel (.obj o) (.obj o')=(o=o'):=rfl
attribute [go_sem] UZ
theorem OQ:G6 []=some []:=rfl
attribute [go_sem] Xk OQ Qj
theorem Aad{σ:Ad}{v:Value}:fz σ (.val v)=some (.val v):=rfl
attribute [go_sem] Aad
attribute [go_sem] ite_self
section
variable {sel:List Nat}{N:Nat}
end
end
section
variable {P:Program}(w:World)
end
end Go.Rv
