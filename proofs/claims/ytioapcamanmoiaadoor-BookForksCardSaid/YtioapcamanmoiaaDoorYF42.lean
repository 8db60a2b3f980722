/-
  Part 42.
-/
import Derived.Test.YtioapcamanmoiaaDoorYF41
import Derived.KernelRfl
namespace Go.Rv
open Go.RowKit
set_option linter.unusedVariables false
set_option linter.unusedSimpArgs false
variable {E:Env}
inductive SepG(E:Env)(orc:Option Tmp→Orc)(ops:Array Oper)(x y:Oper)(frF:List AV):Prop
  |old (h:SepW E orc ops x y frF)
  |freeX (h:AgP E orc ops x frF)
section
variable {m N id:Nat}{l:List Oper}{fr:Fr}{σ:Al}{y:Code}{K:CW}
variable {V β:Type}{X:Option V}{f:V→Option β}{r:β}
end
end Go.Rv
