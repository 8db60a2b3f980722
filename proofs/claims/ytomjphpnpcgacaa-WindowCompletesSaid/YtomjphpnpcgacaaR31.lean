/-
  R31: functions that may panic: what a panic leaves behind, regions that stop at one, contracts.
-/
import Derived.Test.YtomjphpnpcgacaaR30
namespace Go.Rv
set_option linter.unusedVariables false
set_option linter.unusedSimpArgs false

variable {E : Env}

abbrev one1 (v : Value) : List PanicEntry := [{ v := v, recovered := false }]

/-- A function that panics with v; the blocks that it was handed are then as 'σ2' says. -/
structure Pan (B : Base) (f : FuncId) (args : List AV) (σ : Store) (v : Value) (σ2 : Store) : Prop where
  call : ∀ (F : Addr → Prop) (w : World) (g : Gh) (vs : Array Value), Mem (B.env F) w g σ → AllRep w (prot (B.env F) g) g vs.toList args →
    DoCall B.P f vs w (fun e w' => ∃ g', e = .panicked (one1 v) ∧ Mem (B.env F) w' g' σ2 ∧ Evo (B.env F) σ.length w g w' g')

/-- How a function ends. -/
inductive Out
  | ret (r : AV) (σ : Store)
  | pan (v : Value) (σ : Store)

def PCon (B : Base) (f : FuncId) (args : List AV) (σ : Store) : Out → Prop
  | .ret r σ' => Con B f args σ (fun r1 σ1 => r1 = r ∧ σ1 = σ')
  | .pan v σ' => Pan B f args σ v σ'

theorem PCon.to {B : Base} {f : FuncId} {args : List AV} {σ : Store} {o : Out} (h : PCon B f args σ o) {r : AV} {σ' : Store} (ho : o = .ret r σ') : Con B f args σ (fun r1 σ1 => r1 = r ∧ σ1 = σ') := by
  subst ho; exact h
theorem PCon.pan {B : Base} {f : FuncId} {args : List AV} {σ : Store} {o : Out} (h : PCon B f args σ o) {v : Value} {σ' : Store} (ho : o = .pan v σ') : Pan B f args σ v σ' := by
  subst ho; exact h

/-! ### Calls that panic -/
/-! ### Regions that stop at a panic -/
/-- What is thrown. -/
def panVal : AV → Option AV
  | .iface t (.int k z) => some (.val (.iface t (.int k z)))
  | _ => none
theorem panVal_i64 {t : TypeId} {x : Int} : panVal (.iface t (i64 x)) = some (.val (.iface t (.int .i64 x))) := rfl

/-- What a panicking operation does, by the answers in a list. -/
noncomputable def panO (m : List (Nat × FuncId × List AV × Store × AV × Store)) (n : Nat) (ks : List Nat) (o : Oper) : Option (Fr × Store) → Option ((AV × Store) × List AV)
  | some (fr, σ) => match o.op with
    | .panic x => (panVal (evL n fr x)).map fun u => ((u, σ), ks.map fun t => evL n fr (.tmp t))
    | .call c => match c.callee with
      | .value f => match evL n fr f with
        | .fn fid [] => (orcX m o.dst fid (c.args.toList.map (evL n fr)) σ).map fun r => (r, ks.map fun t => evL n fr (.tmp t))
        | _ => none
      | _ => none
    | _ => none
  | none => none

def preL (E : Env) (orc : Option Tmp → Orc) (dr : Bool) (n : Nat) (l : List Oper) (k : Nat) (s : Fr × Store) : Option (Fr × Store) := stepsL E orc dr n l.toArray (l.take k) s
theorem preL_eq {orc : Option Tmp → Orc} {dr : Bool} {n : Nat} {l : List Oper} {k : Nat} {s : Fr × Store} : preL E orc dr n l k s = stepsO E orc dr n l.toArray (l.take k) (some s) := by
  rw [stepsO_eq]; rfl

/-! ### The same, in a region that draws its order -/
theorem setSlot_keep {fr : List AV} {d : Option Tmp} {v : AV} {t : Nat} (h : d ≠ some t) : ev (setSlot fr d v) (.tmp t) = ev fr (.tmp t) :=
  ev_setSlot fun e he h2 => by cases h2; exact h he

theorem stepV_fr {orc : Option Tmp → Orc} {ops : Array Oper} {x : Oper} {st st1 : St} (h : stepV E orc ops x st = some st1) : ∃ v, st1.fr = setSlot st.fr x.dst v := by
  unfold stepV at h
  rw [Option.map_eq_some_iff] at h
  obtain ⟨⟨v, σ'⟩, hv, rfl⟩ := h
  exact ⟨v, rfl⟩

end Go.Rv
