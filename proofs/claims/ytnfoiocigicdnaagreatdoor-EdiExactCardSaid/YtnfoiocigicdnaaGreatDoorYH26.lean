/-
  Part 26.
-/
import Derived.Test.YtnfoiocigicdnaaGreatDoorYH25
namespace Go.Rv
set_option linter.unusedVariables false
set_option linter.unusedSimpArgs false
variable {E : Env} {σ : Am}
theorem AhM {α : Type} {c : α→AV} {t n e g b1 b2 : Nat} {z1 z2 : List AV} {d2 : TypeDesc} (ht : E.tab t = some ⟨.array n e,n,b1,z1⟩) (he : E.tab e = some ⟨d2,1,b2,z2⟩) {a : Arr α n} (hG : E.G g = some (C1 c a.l)) (x : AV) :
    Av E σ t (.glob g) x = match idx x n with
      | some i => some (.rp ((C1 c a.l).drop i))
      | none => none:=by
  unfold Av
  simp only [ht,he,hG]
  cases idx x n with
  | none => rfl
  | some i => simp only [Nat.mul_one]
theorem Aiz {α : Type} [Inhabited α] {c : α→AV} {n : Nat} {a : Arr α n} {i : Nat} (h : i < n) : ((C1 c a.l).drop i)[0]? = some (c (a.get i)):=by
 rw [List.getElem?_drop,Nat.add_zero]
 exact Ah4 h
def AaP (a b : Int) : Int:=if b < a then b else a
def AcP (a b : Int) : Int:=if a < b then b else a
theorem Ami {t : TypeId} {ts : List TypeId} (a b : Int) : Ch E σ .min (t :: ts) [i64 a,i64 b] = some (i64 (AaP a b),σ):=rfl
theorem AnH {t : TypeId} {ts : List TypeId} (a b : Int) : Ch E σ .max (t :: ts) [i64 a,i64 b] = some (i64 (AcP a b),σ):=rfl
def cArr {α : Type} (c : α→AV) (n : Nat) (a : Arr α n) : List AV:=C1 c a.l
attribute [go_sem] Option.isSome_none
attribute [go_sem] Aiz Ami AnH cArr
def AjQ (P : Program) (B : ∀ H : Type,DataW H→Nat) (fuel : Nat) (t : TypeId) {α : Type} (c : α→List AV) (sz : α→Nat) (ok : α→Prop) : Prop :=
 ∀ (H : Type) (enc : TypeId×Value→H) (W : World) (pr : Addr→Prop),(∀ a,pr a)→∀ (cs : List Value) (d : DataW H) (ps : List MemPlace),
  DataW.trod enc P W 0 (fun _ => true) true fuel t cs = some (d,ps) →
  ∃ x : α,cs.length = (c x).length∧sz x≤B H d∧ok x∧∀ (j : Nat) (y : AV),(c x)[j]? = some y→Rep W pr [] (cs.getD j undef) y∧one (cs.getD j undef) = true
section
variable {P : Program} {B : ∀ H : Type,DataW H→Nat}
theorem Opens.at {t : TypeId} {α : Type} {c : α→List AV} {sz : α→Nat} {ok : α→Prop} (h : Opens P B t c sz ok) (fuel : Nat) : AjQ P B fuel t c sz ok :=
 fun H enc W pr hpr cs d ps ht => h H enc W pr hpr fuel cs d ps ht
end
end Go.Rv
