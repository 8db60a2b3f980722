/-
  R32: contracts of functions that may panic, from walks through their bodies.
-/
import Derived.Test.YtomjphpnpcgacaaR31
namespace Go.Rv
set_option linter.unusedVariables false
set_option linter.unusedSimpArgs false

/-! ### Results that change no more, beside boxes that are handed back -/
def boxesB (n : Nat) (σ : Store) : Bool := (List.range n).all fun i => match σ[i]? with
  | some (.box ..) => true
  | _ => false

theorem take_zero' {α : Type} (l : List α) : l.take 0 = [] := rfl
theorem boxesB_zero {σ : Store} : boxesB 0 σ = true := rfl
attribute [go_sem] panVal_i64 Option.map_some boxesB_zero preL_eq panO List.take_succ_cons take_zero' List.take_zero

end Go.Rv
