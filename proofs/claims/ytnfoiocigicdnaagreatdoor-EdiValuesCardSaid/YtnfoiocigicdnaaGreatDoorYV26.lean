/-
  Part 26.
-/
import Derived.Test.YtnfoiocigicdnaaGreatDoorYV25
namespace Go.Rv
set_option linter.unusedVariables false
set_option linter.unusedSimpArgs false
variable {E : Env} {σ : Ab}
theorem AfR {α : Type} {c : α → AV} {t n e g b1 b2 : Nat} {z1 z2 : List AV} {d2 : TypeDesc} (ht : E.tab t = some ⟨.array n e, n, b1, z1⟩) (he : E.tab e = some ⟨d2, 1, b2, z2⟩) {a : Arr α n} (hG : E.G g = some (C1 c a.l)) (x : AV) :
    As E σ t (.glob g) x = match idx x n with
      | some i => some (.rp ((C1 c a.l).drop i))
      | none => none := by
  unfold As
  simp only [ht, he, hG]
  cases idx x n with
  | none => rfl
  | some i => simp only [Nat.mul_one]
theorem Aij {α : Type} [Inhabited α] {c : α → AV} {n : Nat} {a : Arr α n} {i : Nat} (h : i < n) : ((C1 c a.l).drop i)[0]? = some (c (a.get i)) := by
  rw [List.getElem?_drop, Nat.add_zero]
  exact AhT h
def mn64 (a b : Int) : Int := if b < a then b else a
def Pm (a b : Int) : Int := if a < b then b else a
theorem Alf {t : TypeId} {ts : List TypeId} (a b : Int) : Cs E σ .min (t :: ts) [i64 a, i64 b] = some (i64 (mn64 a b), σ) := rfl
theorem Alc {t : TypeId} {ts : List TypeId} (a b : Int) : Cs E σ .max (t :: ts) [i64 a, i64 b] = some (i64 (Pm a b), σ) := rfl
def cArr {α : Type} (c : α → AV) (n : Nat) (a : Arr α n) : List AV := C1 c a.l
attribute [go_sem] Option.isSome_none
attribute [go_sem] Aij Alf Alc cArr
end Go.Rv
