/-
  Part 33.
-/
import Derived.Test.YtldngkmkhfddpaaGreatDoorYX32
import Derived.Laws.Externs
import Derived.Lib.AppendZerosOnto
namespace Go.Rv
open Go.RowKit
set_option linter.unusedVariables false
set_option linter.unusedSimpArgs false
variable {E:Env}{w:World}{g:Gh}{O:Ac}
def At(w:World)(a:Addr)(vs:Array Value):Prop:=∀j,j<vs.size->w.cell? (a.add j)=some (vs.getD j undef)
theorem At.mono{w w':World}{a:Addr}{vs:Array Value}(h:At w a vs)(hw:∀j u,j<vs.size->w.cell? (a.add j)=some u->w'.cell? (a.add j)=some u):At w' a vs :=
 fun j hj=>hw j _ hj (h j hj)
open Go.RowKit
variable {E:Env}
def Ams(n:Nat):ABlk:=.buf 0 (List.replicate (n+1) []) false
attribute [go_sem] Ams
end Go.Rv
