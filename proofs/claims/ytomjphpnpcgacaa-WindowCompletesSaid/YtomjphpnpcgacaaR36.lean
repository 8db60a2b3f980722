/-
  R36: looks into maps of package variables whose contents are a table, and a byte sought in a string.
-/
import Derived.Test.YtomjphpnpcgacaaR35
import Derived.Lib.Join
namespace Go.Rv
set_option linter.unusedVariables false
set_option linter.unusedSimpArgs false

/-! ### Tables -/
theorem wk1_val {sel : List Nat} {v : Value} : wk1 sel (.val v) (.val v) = True := by simp [wk1, wk0, AV.closed]
theorem wk0_val {sel : List Nat} {v : Value} : wk0 sel (.val v) (.val v) = True := by simp [wk0, AV.closed]
attribute [go_sem] wk1_val wk0_val

/-! ### A byte sought in a string -/
/-! ### Structs compared -/
/-! ### Long literals, which Lean writes as two lists joined -/
theorem lapp_cons {α : Type} (a : α) (l m : List α) : List.append (a :: l) m = a :: List.append l m := rfl
theorem lapp_nil {α : Type} (m : List α) : List.append [] m = m := rfl
attribute [go_sem] lapp_cons lapp_nil

theorem get4_str {a b c d : List UInt8} {i : Nat} (h : i < 4) : [[AV.str a], [AV.str b], [AV.str c], [AV.str d]][i]? = some [AV.str (nth [a, b, c, d] i)] := by
  match i, h with
  | 0, _ => rfl
  | 1, _ => rfl
  | 2, _ => rfl
  | 3, _ => rfl
attribute [go_sem] get4_str

end Go.Rv
