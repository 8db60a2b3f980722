/-
  Part 22.
-/
import Derived.Test.YtnfoiocigicdnaaGreatDoorYV21
namespace Go.Rv
set_option linter.unusedVariables false
set_option linter.unusedSimpArgs false
variable {E : Env} {σ : Ab}
structure Arr (α : Type) (n : Nat) where
  l : List α
  h : l.length = n
  deriving DecidableEq
def Arr.rep {α : Type} (n : Nat) (x : α) : Arr α n := ⟨List.replicate n x, List.length_replicate⟩
def Arr.set {α : Type} {n : Nat} (a : Arr α n) (i : Nat) (x : α) : Arr α n := ⟨a.l.set i x, by rw [List.length_set, a.h]⟩
def Arr.get {α : Type} [Inhabited α] {n : Nat} (a : Arr α n) (i : Nat) : α := nth a.l i
instance {α : Type} [Inhabited α] {n : Nat} : Inhabited (Arr α n) := ⟨Arr.rep n default⟩
theorem Arr.ext' {α : Type} {n : Nat} {a b : Arr α n} (h : a.l = b.l) : a = b := by cases a; cases b; cases h; rfl
def C1 {α : Type} (c : α → AV) (l : List α) : List AV := l.map c
section
variable {α : Type} {c : α → AV} {n : Nat} {a b : Arr α n}
theorem AfJ : (C1 c a.l).length = n := by simp [C1, a.h]
theorem AhT [Inhabited α] {i : Nat} (h : i < n) : (C1 c a.l)[i]? = some (c (a.get i)) := by
  have : i < a.l.length := by rw [a.h]; exact h
  simp [C1, Arr.get, nth, this]
theorem Ah0 : (C1 c a.l).take n = C1 c a.l := List.take_of_length_le (Nat.le_of_eq AfJ)
theorem Ws (h : ∀ x, (c x).flat = true) {l : List α} : (C1 c l).all AV.flat = true := by
  simp [C1, h]
theorem Jd (h : ∀ x, B5 σ (c x) = some (c x)) : ∀ {l : List α}, fzCells σ (C1 c l) = some (C1 c l)
  | [] => rfl
  | x :: l => by
    show (B5 σ (c x)).bind (fun y => (fzCells σ (C1 c l)).bind fun ys => some (y :: ys)) = _
    rw [h, Jd h]; rfl
end
theorem flU8 {l : List UInt8} : (C1 u8 l).all AV.flat = true := Ws fun _ => rfl
theorem Aps {l : List UInt32} : (C1 u32 l).all AV.flat = true := Ws fun _ => rfl
theorem ApQ {l : List UInt64} : (C1 u64 l).all AV.flat = true := Ws fun _ => rfl
theorem ApD {l : List Int} : (C1 i64 l).all AV.flat = true := Ws fun _ => rfl
theorem fzU8 {l : List UInt8} : fzCells σ (C1 u8 l) = some (C1 u8 l) := Jd fun _ => rfl
theorem Aoo {l : List UInt32} : fzCells σ (C1 u32 l) = some (C1 u32 l) := Jd fun _ => rfl
theorem Apw {l : List UInt64} : fzCells σ (C1 u64 l) = some (C1 u64 l) := Jd fun _ => rfl
theorem ApV {l : List Int} : fzCells σ (C1 i64 l) = some (C1 i64 l) := Jd fun _ => rfl
theorem Alv {i n : Nat} (h : i < n) : i + 1 ≤ n := h
theorem Ac2 {t e n a b : Nat} {z : List AV} {de : TD} (ht : E.tab t = some ⟨.array n e, a, b, z⟩) (he : E.tab e = some de) (cs : List AV) (x : AV) :
    L6 E t (.agg cs) x = match idx x n with
      | some i => partA de cs (i * de.size)
      | none => none := by
  unfold L6
  simp only [ht, he]
  cases idx x n <;> rfl
attribute [go_sem] AfJ AhT Ah0 flU8 Aps ApQ ApD fzU8 Aoo Apw ApV Nat.le_refl Ke Aco Xt
end Go.Rv
