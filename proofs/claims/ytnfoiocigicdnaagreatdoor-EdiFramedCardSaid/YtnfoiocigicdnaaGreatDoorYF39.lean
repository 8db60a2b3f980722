/-
  Part 39.
-/
import Derived.Test.YtnfoiocigicdnaaGreatDoorYF38
namespace Go.Rv
set_option linter.unusedVariables false
set_option linter.unusedSimpArgs false
variable {E : Env} {σ : Ad}
theorem AgE {t : TypeId} {ts : List TypeId} (a b c : Int) : Bp E σ .min (t :: ts) [i64 a, i64 b, i64 c] = some (i64 (Wa (Wa a b) c), σ) := rfl
theorem AhF {t : TypeId} {ts : List TypeId} (a b c : Int) : Bp E σ .max (t :: ts) [i64 a, i64 b, i64 c] = some (i64 (AcQ (AcQ a b) c), σ) := rfl
theorem AhU {t : TypeId} {ts : List TypeId} (a b c d : Int) : Bp E σ .min (t :: ts) [i64 a, i64 b, i64 c, i64 d] = some (i64 (Wa (Wa (Wa a b) c) d), σ) := rfl
theorem Agf {t : TypeId} {ts : List TypeId} (a b c d : Int) : Bp E σ .max (t :: ts) [i64 a, i64 b, i64 c, i64 d] = some (i64 (AcQ (AcQ (AcQ a b) c) d), σ) := rfl
attribute [go_sem] AgE AhF AhU Agf
theorem Aiw {l : List Bool} : (C1 AV.bool l).all AV.flat = true := Pq fun _ => rfl
theorem Ai2 {l : List Bool} : fzCells σ (C1 AV.bool l) = some (C1 AV.bool l) := Gm fun _ => rfl
attribute [go_sem] Aiw Ai2
section
variable {sel : List Nat} {N : Nat} {y : AV}
theorem Ad6 {f : FuncId} {i o : Nat} : Q3 sel N (.fn f [.ref i o]) = .fn f [.ref (G5 sel N i) o] := rfl
theorem Aed {f : FuncId} {i o : Nat} : Y7 sel N (.fn f [.ref i o]) = .fn f [.ref (G5 sel N i) o] := rfl
theorem Aes {f : FuncId} {i o : Nat} : Zh sel N (.fn f [.ref i o]) = .fn f [.ref (G5 sel N i) o] := rfl
end
attribute [go_sem] Ad6 Aed Aes
open Go.RowKit
variable {E : Env}
def AkS : List Oper → List Oper
  | [] => []
  | [_] => []
  | x :: y :: l => x :: AkS (y :: l)
def Akr : List Oper → List Oper
  | [] => []
  | [x] => [x]
  | _ :: y :: l => Akr (y :: l)
attribute [go_sem] AkS Akr
section
variable {P : Prop} {N id : Nat} {l : List Oper} {fr fr' : Fr} {σ σ' : Ad} {y : Code} {orc : Option Tmp → Orc} {m : Nat} {K : Eb}
end
open Go.RowKit
variable {E : Env}
theorem Ab2 {α : Type} [Inhabited α] {c : α → List AV} {l m : List α} {i : Nat} (h : i < l.length + m.length) : (L c l ++ L c m)[i]? = some (c (nth (l ++ m) i)) := by
  have h' : i < (l ++ m).length := by rw [List.length_append]; exact h
  rw [← AhC]
  exact AgP h'
attribute [go_sem] Ab2
end Go.Rv
