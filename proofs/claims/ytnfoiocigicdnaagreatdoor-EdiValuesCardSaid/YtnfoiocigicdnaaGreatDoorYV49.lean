/-
  Part 49.
-/
import Derived.Test.YtnfoiocigicdnaaGreatDoorYV48
namespace Go.Proofs.YtnfoiocigicdnaaGreatDoor
open Go.Rv
set_option linter.unusedVariables false
set_option maxRecDepth 100000
theorem AiP (x : Api_Part) : (⟨x.Kind, x.Serial, (if x.Fitted = true then (1 : Int) else 0) == 1⟩ : Api_Part) = x := by
  rcases x with ⟨a, b, c⟩
  cases c <;> rfl
theorem ent_ints : Ints ent := by
  have z : I64 0 := ⟨by omega, by omega⟩
  exact ⟨z, ⟨z, z⟩, ⟨z, z, z, z, z, z, z, z, z, z, z⟩, fun x hx => by cases hx⟩
end Go.Proofs.YtnfoiocigicdnaaGreatDoor
