/-
  Part 27.
-/
import Derived.Test.YtnfoiocigicdnaaGreatDoorYF26
namespace Go.Rv
set_option linter.unusedVariables false
set_option linter.unusedSimpArgs false
variable {E : Env}
abbrev one1 (v : Value) : List PanicEntry := [{ v := v, recovered := false }]
structure Pan (B : Base) (f : FuncId) (args : List AV) (σ : Ad) (v : Value) (σ2 : Ad) : Prop where
  call : ∀ (F : Addr → Prop) (w : World) (g : Gh) (vs : Array Value), Mem (B.env F) w g σ → C5 w (Av (B.env F) g) g vs.toList args →
    DoCall B.P f vs w (fun e w' => ∃ g', e = .panicked (one1 v) ∧ Mem (B.env F) w' g' σ2 ∧ Evo (B.env F) σ.length w g w' g')
inductive Out
  | ret (r : AV) (σ : Ad)
  | pan (v : Value) (σ : Ad)
def PCon (B : Base) (f : FuncId) (args : List AV) (σ : Ad) : Out → Prop
  | .ret r σ' => Con B f args σ (fun r1 σ1 => r1 = r ∧ σ1 = σ')
  | .pan v σ' => Pan B f args σ v σ'
theorem PCon.to {B : Base} {f : FuncId} {args : List AV} {σ : Ad} {o : Out} (h : PCon B f args σ o) {r : AV} {σ' : Ad} (ho : o = .ret r σ') : Con B f args σ (fun r1 σ1 => r1 = r ∧ σ1 = σ') := by
  subst ho; exact h
theorem PCon.pan {B : Base} {f : FuncId} {args : List AV} {σ : Ad} {o : Out} (h : PCon B f args σ o) {v : Value} {σ' : Ad} (ho : o = .pan v σ') : Pan B f args σ v σ' := by
  subst ho; exact h
def Af3 : AV → Option AV
  | .iface t (.int k z) => some (.val (.iface t (.int k z)))
  | _ => none
theorem Abq {t : TypeId} {x : Int} : Af3 (.iface t (i64 x)) = some (.val (.iface t (.int .i64 x))) := rfl
noncomputable def panO (m : List (Nat × FuncId × List AV × Ad × AV × Ad)) (n : Nat) (ks : List Nat) (o : Oper) : Option (Fr × Ad) → Option ((AV × Ad) × List AV)
  | some (fr, σ) => match o.op with
    | .panic x => (Af3 (evL n fr x)).map fun u => ((u, σ), ks.map fun t => evL n fr (.tmp t))
    | .call c => match c.callee with
      | .value f => match evL n fr f with
        | .fn fid [] => (Ac9 m o.dst fid (c.args.toList.map (evL n fr)) σ).map fun r => (r, ks.map fun t => evL n fr (.tmp t))
        | _ => none
      | _ => none
    | _ => none
  | none => none
theorem U6 {fr : List AV} {d : Option Tmp} {v : AV} {t : Nat} (h : d ≠ some t) : ev (Bh fr d v) (.tmp t) = ev fr (.tmp t) :=
  Qj fun e he h2 => by cases h2; exact h he
theorem Afg {orc : Option Tmp → Orc} {ops : Array Oper} {x : Oper} {st st1 : St} (h : Ep E orc ops x st = some st1) : ∃ v, st1.fr = Bh st.fr x.dst v := by
  unfold Ep at h
  rw [Option.map_eq_some_iff] at h
  obtain ⟨⟨v, σ'⟩, hv, rfl⟩ := h
  exact ⟨v, rfl⟩
def Ale (n : Nat) (σ : Ad) : Bool := (List.range n).all fun i => match σ[i]? with
  | some (.box ..) => true
  | _ => false
theorem Abz {α : Type} (l : List α) : l.take 0 = [] := rfl
theorem Xm {σ : Ad} : Ale 0 σ = true := rfl
attribute [go_sem] Abq Option.map_some Xm panO List.take_succ_cons Abz List.take_zero
end Go.Rv
