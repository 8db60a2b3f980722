/-
  R29: readings of types that hold themselves: with so much fuel.
-/
import Derived.Test.YtomjphpnpcgacaaR28
namespace Go.Rv
set_option linter.unusedVariables false
set_option linter.unusedSimpArgs false

def OpensAt (P : Program) (B : ∀ H : Type, DataW H → Nat) (fuel : Nat) (t : TypeId) {α : Type} (c : α → List AV) (sz : α → Nat) (ok : α → Prop) : Prop :=
  ∀ (H : Type) (enc : TypeId × Value → H) (W : World) (pr : Addr → Prop), (∀ a, pr a) → ∀ (cs : List Value) (d : DataW H) (ps : List MemPlace),
    DataW.trod enc P W 0 (fun _ => true) true fuel t cs = some (d, ps) →
    ∃ x : α, cs.length = (c x).length ∧ sz x ≤ B H d ∧ ok x ∧ ∀ (j : Nat) (y : AV), (c x)[j]? = some y → Rep W pr [] (cs.getD j undef) y ∧ one (cs.getD j undef) = true

section
variable {P : Program} {B : ∀ H : Type, DataW H → Nat}

theorem Opens.at {t : TypeId} {α : Type} {c : α → List AV} {sz : α → Nat} {ok : α → Prop} (h : Opens P B t c sz ok) (fuel : Nat) : OpensAt P B fuel t c sz ok :=
  fun H enc W pr hpr cs d ps ht => h H enc W pr hpr fuel cs d ps ht
end

end Go.Rv
