/-
  R14: regions evaluated as far as the next call; the table of types of a program.
-/
import Derived.Test.YtomjphpnpcgacaaR13
namespace Go.Rv
set_option linter.unusedVariables false
set_option linter.unusedSimpArgs false

variable {E : Env}

/-! ### The table of types -/
def tabOf (P : Program) (t : Nat) : Option TD :=
  match P.underlying t, P.info? t with
  | some d, some i => match i.zero with
    | some z => if z.cells.size = i.size ∧ z.cells.all one = true then some ⟨d, i.size, i.bytes, z.cells.toList.map ofCell⟩ else none
    | none => none
  | _, _ => none

def baseOwn (P : Program) (G : Nat → Option (List AV)) (own : FuncId → Bool) (maps : TypeId → Option MapS := fun _ => none) (whole : Nat → Option (Array Value) := fun _ => none) : Base := ⟨P, tabOf P, G, own, maps, whole⟩
theorem baseOwn_ok (P : Program) (G : Nat → Option (List AV)) (own : FuncId → Bool) (maps : TypeId → Option MapS := fun _ => none) (whole : Nat → Option (Array Value) := fun _ => none) : (baseOwn P G own maps whole).Ok := by
  have key : ∀ t d, tabOf P t = some d → P.underlying t = some d.desc ∧ ∃ i z, P.info? t = some i ∧ i.size = d.size ∧ i.bytes = d.bytes ∧ i.zero = some z ∧ z.cells.size = d.zero.length ∧ d.zero.length = d.size ∧
      ∀ w pr g (j : Nat) (x : AV), d.zero[j]? = some x → Rep w pr g (z.cells.getD j undef) x ∧ one (z.cells.getD j undef) = true := by
    intro t d h
    unfold tabOf at h
    split at h
    case h_2 => cases h
    rename_i dd i h1 h2
    split at h
    case h_2 => cases h
    rename_i z hz
    split at h
    case isFalse => cases h
    rename_i hc
    obtain ⟨c1, c2⟩ := hc
    cases h
    refine ⟨h1, i, z, h2, rfl, rfl, hz, by simp, by simp [c1], ?_⟩
    intro w pr g j x hj
    simp only [List.getElem?_map, Option.map_eq_some_iff] at hj
    obtain ⟨u, hu, rfl⟩ := hj
    have hu' : z.cells[j]? = some u := by simpa using hu
    have hl : j < z.cells.size := (Array.getElem?_eq_some_iff.1 hu').1
    rw [getD_of_get hu']
    refine ⟨rep_ofCell u, ?_⟩
    have := Array.all_eq_true.1 c2 j hl
    rw [← (Array.getElem?_eq_some_iff.1 hu').2]
    exact this
  exact ⟨fun t d h => (key t d h).1, fun t d h => (key t d h).2⟩

/-! ### Evaluation as far as the next call -/
/-- What the guard says: run, or pass over. -/
def wantA (ops : Array Oper) (fr : List AV) (o : Oper) : Option Bool :=
  match o.guard with
  | none => some true
  | some (j, want) => (yieldA ops fr j).map (· == some want)

/-- A region on the way: running; stopped ahead of a call; failed. -/
inductive Acc where
  | run (fr : List AV) (σ : Store)
  | stop (l : List Oper) (fr : List AV) (σ : Store)
  | bad

def stepS (r : Acc) (K : List Oper → List AV → Store → Prop) : Prop :=
  match r with
  | .run fr σ => K [] fr σ
  | .stop l fr σ => K l fr σ
  | .bad => False

/-! What simp may look into, and what not. -/
end Go.Rv
