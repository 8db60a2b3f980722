/-
  R28: arrays compared; arrays of package variables; min and max; arrays as elements.
-/
import Derived.Test.YtomjphpnpcgacaaR27
namespace Go.Rv
set_option linter.unusedVariables false
set_option linter.unusedSimpArgs false

variable {E : Env} {σ : Store}

/-! ### Arrays of package variables -/
theorem C1_dget {α : Type} [Inhabited α] {c : α → AV} {n : Nat} {a : Arr α n} {i : Nat} (h : i < n) : ((C1 c a.l).drop i)[0]? = some (c (a.get i)) := by
  rw [List.getElem?_drop, Nat.add_zero]
  exact C1_get h

/-! ### The least and the greatest -/
def mn64 (a b : Int) : Int := if b < a then b else a
def mx64 (a b : Int) : Int := if a < b then b else a
theorem bi_min {t : TypeId} {ts : List TypeId} (a b : Int) : builtinA E σ .min (t :: ts) [i64 a, i64 b] = some (i64 (mn64 a b), σ) := rfl
theorem bi_max {t : TypeId} {ts : List TypeId} (a b : Int) : builtinA E σ .max (t :: ts) [i64 a, i64 b] = some (i64 (mx64 a b), σ) := rfl

/-! ### Arrays as elements; elements told by their cells -/
def cArr {α : Type} (c : α → AV) (n : Nat) (a : Arr α n) : List AV := C1 c a.l
theorem splice_lit {α : Type} {c : α → AV} {n : Nat} {a : Arr α n} {xs : List AV} (h : xs.length = n) : splice (C1 c a.l) 0 xs = xs := by
  refine List.ext_getElem? fun k => ?_
  rw [splice_get _ _ _ (by rw [C1_len]; omega)]
  by_cases hk : k < n
  · rw [if_pos ⟨Nat.zero_le _, by omega⟩]; rfl
  · rw [if_neg (by omega), List.getElem?_eq_none (by rw [C1_len]; omega), List.getElem?_eq_none (by omega)]

theorem arr_take {α : Type} {n : Nat} {a : Arr α n} : List.take n a.l = a.l := List.take_of_length_le (Nat.le_of_eq a.h)
attribute [go_sem] arr_take Option.isSome_none
attribute [go_sem] C1_dget bi_min bi_max cArr
attribute [go_sem ↓] splice_lit

end Go.Rv
