/-
  Part 48.
-/
import Derived.Test.YtnfoiocigicdnaaGreatDoorYV44
import Derived.Test.YtnfoiocigicdnaaGreatDoorYV47
namespace Go.Proofs.YtnfoiocigicdnaaGreatDoor
open Go.Rv
set_option linter.unusedVariables false
set_option maxRecDepth 100000
structure Rg (it : Api_Item) (n : Nat) : Prop where
  ints : Ints it
  text : it.Text.length ≤ 70000
  parts : it.Parts.length ≤ n
abbrev Un := Int × Int × Int × Int × Int × Int × Int × Int × Int × Int × Int × Int × Int × Int × List UInt8 × List Api_Part
def ent : Api_Item := { Kind := 0, Ref := { Railway := 0, No := 0 }, Wagon := 0, Place := 0, Other := 0, Number := 0, From := 0, To := 0, Code := 0, Dest := 0, Class := 0, Weight := 0, Amount := 0, Text := [], Parts := [] }
end Go.Proofs.YtnfoiocigicdnaaGreatDoor
