/-
  Part 44.
-/
import Derived.Test.YtldngkmkhfddpaaDoorYT43
namespace Go.Rv
open Go.RowKit
set_option linter.unusedVariables false
set_option linter.unusedSimpArgs false
variable {E:Env}
inductive SepW(E:Env)(orc:Option Tmp→Orc)(ops:Array Oper)(x y:Oper)(frF:List AV):Prop
  |old (h:SepZ E orc ops x y frF)
  |fzX (h:EE E ops x=true)
  |fzY (h:EE E ops y=true)
  |freeY (h:Aet E orc ops y frF)
theorem WZ{sel:List Nat}{x y:Nat×AV}{xs ys:Fr}:wkT sel (x::xs) (y::ys)=((x.1=y.1∧wk1 sel x.2 y.2)∧wkT sel xs ys):=rfl
theorem VY{sel:List Nat}{y y':Bool}{N N':Nat}{l l':Fr}{ps ps':Array Tmp}{a a' b b':Code}:OH sel (.lp y N l ps a b) (.lp y' N' l' ps' a' b')=(y=y'∧N=N'∧ps=ps'∧a=a'∧b=b'∧wkT sel l l'):=rfl
attribute [go_sem] WZ VY
end Go.Rv
