/-
  Part 39.
-/
import Derived.Test.YtnfoiocigicdnaaGreatDoorYF38
namespace Go.Rv
set_option linter.unusedVariables false
set_option linter.unusedSimpArgs false
variable {E : Env} {σ : Ad}
theorem Age {t : TypeId} {ts : List TypeId} (a b c : Int) : Bm E σ .min (t :: ts) [i64 a, i64 b, i64 c] = some (i64 (V5 (V5 a b) c), σ) := rfl
theorem Agt {t : TypeId} {ts : List TypeId} (a b c : Int) : Bm E σ .max (t :: ts) [i64 a, i64 b, i64 c] = some (i64 (AbE (AbE a b) c), σ) := rfl
theorem Aim {t : TypeId} {ts : List TypeId} (a b c d : Int) : Bm E σ .min (t :: ts) [i64 a, i64 b, i64 c, i64 d] = some (i64 (V5 (V5 (V5 a b) c) d), σ) := rfl
theorem AhB {t : TypeId} {ts : List TypeId} (a b c d : Int) : Bm E σ .max (t :: ts) [i64 a, i64 b, i64 c, i64 d] = some (i64 (AbE (AbE (AbE a b) c) d), σ) := rfl
attribute [go_sem] Age Agt Aim AhB
theorem Akn {l : List Bool} : (C1 AV.bool l).all AV.flat = true := Pt fun _ => rfl
theorem AiS {l : List Bool} : fzCells σ (C1 AV.bool l) = some (C1 AV.bool l) := Gl fun _ => rfl
attribute [go_sem] Akn AiS
section
variable {sel : List Nat} {N : Nat} {y : AV}
theorem Afx {f : FuncId} {i o : Nat} : Q1 sel N (.fn f [.ref i o]) = .fn f [.ref (G6 sel N i) o] := rfl
theorem Aem {f : FuncId} {i o : Nat} : Zf sel N (.fn f [.ref i o]) = .fn f [.ref (G6 sel N i) o] := rfl
theorem Aev {f : FuncId} {i o : Nat} : Zd sel N (.fn f [.ref i o]) = .fn f [.ref (G6 sel N i) o] := rfl
end
attribute [go_sem] Afx Aem Aev
open Go.RowKit
variable {E : Env}
def Akv : List Oper → List Oper
  | [] => []
  | [_] => []
  | x :: y :: l => x :: Akv (y :: l)
def AiB : List Oper → List Oper
  | [] => []
  | [x] => [x]
  | _ :: y :: l => AiB (y :: l)
attribute [go_sem] Akv AiB
section
variable {P : Prop} {N id : Nat} {l : List Oper} {fr fr' : Fr} {σ σ' : Ad} {y : Code} {orc : Option Tmp → Orc} {m : Nat} {K : Ed}
end
open Go.RowKit
variable {E : Env}
theorem AdA {α : Type} [Inhabited α] {c : α → List AV} {l m : List α} {i : Nat} (h : i < l.length + m.length) : (L c l ++ L c m)[i]? = some (c (nth (l ++ m) i)) := by
  have h' : i < (l ++ m).length := by rw [List.length_append]; exact h
  rw [← AhK]
  exact AhL h'
attribute [go_sem] AdA
end Go.Rv
