/-
  R14: regions evaluated as far as the next call; the table of types of a program.
-/
import Derived.Test.YtomjphpnpcgacaaR13
namespace Go.Rv
set_option linter.unusedVariables false
set_option linter.unusedSimpArgs false

variable {E : Env}

/-! ### The table of types -/
def tabOf (P : Program) (t : Nat) : Option TD :=
  match P.underlying t, P.info? t with
  | some d, some i => match i.zero with
    | some z => if z.cells.size = i.size ∧ z.cells.all one = true then some ⟨d, i.size, i.bytes, z.cells.toList.map ofCell⟩ else none
    | none => none
  | _, _ => none

def baseOwn (P : Program) (G : Nat → Option (List AV)) (own : FuncId → Bool) (maps : TypeId → Option MapS := fun _ => none) (whole : Nat → Option (Array Value) := fun _ => none) : Base := ⟨P, tabOf P, G, own, maps, whole⟩
def baseOf (P : Program) (G : Nat → Option (List AV)) : Base := baseOwn P G (fun _ => false)

theorem baseOwn_ok (P : Program) (G : Nat → Option (List AV)) (own : FuncId → Bool) (maps : TypeId → Option MapS := fun _ => none) (whole : Nat → Option (Array Value) := fun _ => none) : (baseOwn P G own maps whole).Ok := by
  have key : ∀ t d, tabOf P t = some d → P.underlying t = some d.desc ∧ ∃ i z, P.info? t = some i ∧ i.size = d.size ∧ i.bytes = d.bytes ∧ i.zero = some z ∧ z.cells.size = d.zero.length ∧ d.zero.length = d.size ∧
      ∀ w pr g (j : Nat) (x : AV), d.zero[j]? = some x → Rep w pr g (z.cells.getD j undef) x ∧ one (z.cells.getD j undef) = true := by
    intro t d h
    unfold tabOf at h
    split at h
    case h_2 => cases h
    rename_i dd i h1 h2
    split at h
    case h_2 => cases h
    rename_i z hz
    split at h
    case isFalse => cases h
    rename_i hc
    obtain ⟨c1, c2⟩ := hc
    cases h
    refine ⟨h1, i, z, h2, rfl, rfl, hz, by simp, by simp [c1], ?_⟩
    intro w pr g j x hj
    simp only [List.getElem?_map, Option.map_eq_some_iff] at hj
    obtain ⟨u, hu, rfl⟩ := hj
    have hu' : z.cells[j]? = some u := by simpa using hu
    have hl : j < z.cells.size := (Array.getElem?_eq_some_iff.1 hu').1
    rw [getD_of_get hu']
    refine ⟨rep_ofCell u, ?_⟩
    have := Array.all_eq_true.1 c2 j hl
    rw [← (Array.getElem?_eq_some_iff.1 hu').2]
    exact this
  exact ⟨fun t d h => (key t d h).1, fun t d h => (key t d h).2⟩

/-! ### Evaluation as far as the next call -/
def Op.isCall : Op → Bool
  | .call c => match c.callee with
    | .builtin _ => false
    | _ => true
  | _ => false

/-- What the guard says: run, or pass over. -/
def wantA (ops : Array Oper) (fr : List AV) (o : Oper) : Option Bool :=
  match o.guard with
  | none => some true
  | some (j, want) => (yieldA ops fr j).map (· == some want)

/-- A region on the way: running; stopped ahead of a call; failed. -/
inductive Acc where
  | run (fr : List AV) (σ : Store)
  | stop (l : List Oper) (fr : List AV) (σ : Store)
  | bad

def opFin (fr : List AV) (d : Option Tmp) (r : Option (AV × Store)) : Acc :=
  match r with
  | some (x, σ) => .run (setSlot fr d x) σ
  | none => .bad

def opGo (E : Env) (o : Oper) (fr : List AV) (σ : Store) (wt : Option Bool) : Acc :=
  match wt with
  | some true => if Op.isCall o.op = true then .stop [o] fr σ else opFin fr o.dst (evOp E fr σ o.op)
  | some false => .run (setSlot fr o.dst (.tup [])) σ
  | none => .bad

def opStep (E : Env) (ops : Array Oper) (o : Oper) (acc : Acc) : Acc :=
  match acc with
  | .run fr σ => opGo E o fr σ (wantA ops fr o)
  | .stop l fr σ => .stop (l ++ [o]) fr σ
  | .bad => .bad

def evList (E : Env) (ops : Array Oper) : List Oper → Acc → Acc
  | [], acc => acc
  | o :: rest, acc => evList E ops rest (opStep E ops o acc)

def stepS (r : Acc) (K : List Oper → List AV → Store → Prop) : Prop :=
  match r with
  | .run fr σ => K [] fr σ
  | .stop l fr σ => K l fr σ
  | .bad => False

theorem stepS_run {fr : List AV} {σ : Store} {K : List Oper → List AV → Store → Prop} : stepS (.run fr σ) K = K [] fr σ := rfl
theorem stepS_stop {l : List Oper} {fr : List AV} {σ : Store} {K : List Oper → List AV → Store → Prop} : stepS (.stop l fr σ) K = K l fr σ := rfl
theorem stepS_ite {c : Prop} [Decidable c] {r : Acc} {K : List Oper → List AV → Store → Prop} : stepS (if c then r else .bad) K = (c ∧ stepS r K) := by
  by_cases h : c <;> simp [h, stepS]
theorem opFin_ite {c : Prop} [Decidable c] {r : Option (AV × Store)} {fr : List AV} {d : Option Tmp} : opFin fr d (if c then r else none) = if c then opFin fr d r else .bad := by
  by_cases h : c <;> simp [h, opFin]
theorem opFin_some {x : AV} {σ : Store} {fr : List AV} {d : Option Tmp} : opFin fr d (some (x, σ)) = .run (setSlot fr d x) σ := rfl
theorem opStep_ite {c : Prop} [Decidable c] {r : Acc} {ops : Array Oper} {o : Oper} : opStep E ops o (if c then r else .bad) = if c then opStep E ops o r else .bad := by
  by_cases h : c <;> simp [h, opStep]
theorem opStep_run {fr : List AV} {σ : Store} {ops : Array Oper} {o : Oper} : opStep E ops o (.run fr σ) = opGo E o fr σ (wantA ops fr o) := rfl
theorem opStep_stop {l : List Oper} {fr : List AV} {σ : Store} {ops : Array Oper} {o : Oper} : opStep E ops o (.stop l fr σ) = .stop (l ++ [o]) fr σ := rfl
theorem opGo_run {fr : List AV} {σ : Store} {o : Oper} (h : Op.isCall o.op = false) : opGo E o fr σ (some true) = opFin fr o.dst (evOp E fr σ o.op) := by simp [opGo, h]
theorem opGo_call {fr : List AV} {σ : Store} {o : Oper} (h : Op.isCall o.op = true) : opGo E o fr σ (some true) = .stop [o] fr σ := by simp [opGo, h]
theorem opGo_pass {fr : List AV} {σ : Store} {o : Oper} : opGo E o fr σ (some false) = .run (setSlot fr o.dst (.tup [])) σ := rfl
theorem map_ite {α β : Type} {c : Prop} [Decidable c] {a : Option α} {f : α → β} : (if c then a else none).map f = if c then a.map f else none := by
  by_cases h : c <;> simp [h]
theorem bind_ite {α β : Type} {c : Prop} [Decidable c] {a : Option α} {f : α → Option β} : (if c then a else none).bind f = if c then a.bind f else none := by
  by_cases h : c <;> simp [h]

/-! What simp may look into, and what not. -/
theorem runOps_congr {n : Nat} {ops : Array Oper} {l : List Oper} {st st' : St} {K : Post} (h : st = st') : RunOps E n ops l st K = RunOps E n ops l st' K := by rw [h]
theorem run_congr {n : Nat} {c : Code} {st st' : St} {K : Post} (h : st = st') : Run E n c st K = Run E n c st' K := by rw [h]

theorem evList_bad {ops : Array Oper} : ∀ l : List Oper, evList E ops l .bad = .bad
  | [] => rfl
  | _ :: l => evList_bad l

theorem evList_stop {ops : Array Oper} : ∀ (l m : List Oper) (fr : List AV) (σ : Store), evList E ops l (.stop m fr σ) = .stop (m ++ l) fr σ
  | [], m, fr, σ => by simp [evList]
  | o :: l, m, fr, σ => by
    show evList E ops l (.stop (m ++ [o]) fr σ) = _
    rw [evList_stop l]
    simp

theorem ops_upto (hE : E.Ok) {n : Nat} {ops : Array Oper} {K : Post} : ∀ (l : List Oper) (fr : List AV) (σ : Store),
    stepS (evList E ops l (.run fr σ)) (fun l' fr' σ' => RunOps E n ops l' ⟨fr', σ'⟩ K) → RunOps E n ops l ⟨fr, σ⟩ K
  | [], fr, σ, h => h
  | o :: rest, fr, σ, h => by
    have h' : stepS (evList E ops rest (opGo E o fr σ (wantA ops fr o))) (fun l' fr' σ' => RunOps E n ops l' ⟨fr', σ'⟩ K) := h
    clear h
    cases hw : wantA ops fr o with
    | none =>
      rw [hw] at h'
      simp only [opGo, evList_bad, stepS] at h'
    | some b =>
      rw [hw] at h'
      unfold wantA at hw
      have hcall : b = true → Op.isCall o.op = true → RunOps E n ops (o :: rest) ⟨fr, σ⟩ K := by
        intro hb hc
        subst hb
        rw [opGo_call hc, evList_stop] at h'
        exact h'
      have hrun : b = true → Op.isCall o.op = false → ∃ x σ', evOp E fr σ o.op = some (x, σ') ∧ RunOps E n ops rest ⟨setSlot fr o.dst x, σ'⟩ K := by
        intro hb hc
        subst hb
        rw [opGo_run hc] at h'
        cases hx : evOp E fr σ o.op with
        | none =>
          rw [hx] at h'
          simp only [opFin, evList_bad, stepS] at h'
        | some r =>
          rw [hx] at h'
          exact ⟨r.1, r.2, rfl, ops_upto hE rest _ _ h'⟩
      have hpass : b = false → RunOps E n ops rest ⟨setSlot fr o.dst (.tup []), σ⟩ K := by
        intro hb
        subst hb
        exact ops_upto hE rest _ _ h'
      cases hgd : o.guard with
      | none =>
        simp only [hgd, Option.some.injEq] at hw
        cases hc : Op.isCall o.op with
        | true => exact hcall hw.symm hc
        | false =>
          obtain ⟨x, σ', hx, hs⟩ := hrun hw.symm hc
          exact ops_cons hE hgd hx hs
      | some jw =>
        obtain ⟨j, want⟩ := jw
        simp only [hgd, Option.map_eq_some_iff] at hw
        obtain ⟨y, hy, hb⟩ := hw
        by_cases e : y = some want
        · subst e
          have hbt : b = true := by rw [← hb]; simp
          cases hc : Op.isCall o.op with
          | true => exact hcall hbt hc
          | false =>
            obtain ⟨x, σ', hx, hs⟩ := hrun hbt hc
            exact ops_guard hE hgd hy (fun _ => ⟨_, _, hx, hs⟩) (fun h => (h rfl).elim)
        · have e2 : b = false := by rw [← hb]; simpa using e
          exact ops_guard hE hgd hy (fun h => (e h).elim) (fun _ => hpass e2)

theorem region_upto (hE : E.Ok) {n id : Nat} {l : List Oper} {st : St} {K : Post} (h : stepS (evList E l.toArray l (.run st.fr st.σ)) (fun l' fr' σ' => RunOps E n l.toArray l' ⟨fr', σ'⟩ K)) : Run E n (.region id l.toArray false) st K :=
  run_region (ops_upto hE _ _ _ h)

end Go.Rv
