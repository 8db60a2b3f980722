/-
  Part 33.
-/
import Derived.Test.YtioapcamanmoiaaDoorYR32
namespace Go.Rv
open Go.RowKit
set_option linter.unusedVariables false
set_option linter.unusedSimpArgs false
variable {E : Env}
def bsId : AV→Option Nat
 | .bs _ id _ _ _ => some id
 | _ => none
def Rd : AV→Nat→Prop
 | .bs _ id tot off len,d => id = d∧off = 0∧len = tot
 | _,_ => False
def sliceP : Op→Option Nat
 | .slice _ (.tmp p) _ _ _ => some p
 | _ => none
def An4 : Op→Option Nat
 | .call c => match c.callee,c.args.toList with
  | .builtin .append,[.tmp p,_] => some p
  | _,_ => none
 | _ => none
def AqC (E : Env) (orc : Option Tmp→Orc) (ops : Array Oper) (y : Oper) (fr : List AV) (a : Nat) : Prop :=
 ∀ (σ σ' : An) (v : AV),Fc E orc ops y fr σ = some (v,σ')→σ' = σ∧∀ σ2 : An,σ2[a]? = σ[a]?→Fc E orc ops y fr σ2 = some (v,σ2)
def AqG (E : Env) (orc : Option Tmp→Orc) (ops : Array Oper) (y : Oper) (fr : List AV) : Prop :=
 ∀ (σ σ' : An) (v : AV),Fc E orc ops y fr σ = some (v,σ')→σ' = σ∧∀ σ2 : An,Fc E orc ops y fr σ2 = some (v,σ2)
theorem Xd {orc : Option Tmp→Orc} {ops : Array Oper} {o : Oper} {fr : List AV} (hf : G4 E ops o = false) (σ : An) : Fc E orc ops o fr σ = match Mc ops fr o with
    | some true => C7 E (orc o.dst) o.op fr σ
    | some false => some (.tup [],σ)
    | none => none:=by
  have e : Hf false σ = some:=by funext r;simp [Hf]
  unfold Fc
  rw [hf]
  split <;> simp_all [Bv]
theorem AdI {ops : Array Oper} {o : Oper} (h1 : ∀ t n l,o.op≠.buildSlice t n l) (h2 : ∀ s d x,o.op≠.convert s d x) : G4 E ops o = false:=by
 cases hf : G4 E ops o
 ·rfl
 ·rcases Et hf with ⟨t,n,l,h⟩ | ⟨s,d,x,h,_⟩
  ·exact (h1 _ _ _ h).elim
  ·exact (h2 _ _ _ h).elim
theorem AeM {f : Bool} {id T a : Nat} {t : TypeId} {x v : AV} {σ σ1 : An} (hne : a≠id) (h : Oa E σ t (.bs f id T 0 T) x = some (v,σ1)) : σ1[a]? = σ[a]?:=by
  unfold Oa at h
  split at h
  · cases h
  split at h
  case h_2 => cases h
  split at h
  case h_2 => cases h
  split at h
  · cases h
  split at h
  case isFalse => cases h
  simp only at h
  split at h
  case h_3 => cases h
  case h_2 =>
    generalize Ky _ = z at h
    cases z with
    | none => cases h
    | some nl =>
      simp only at h
      split at h
      · cases h;exact List.getElem?_set_ne (fun e => hne e.symm)
      · cases h
  split at h
  case isFalse => cases h
  rw [if_pos (by simp)] at h
  cases h
  exact List.getElem?_set_ne (fun e => hne e.symm)
theorem Aih {orc : Option Tmp→Orc} {ops : Array Oper} {o : Oper} {fr : List AV} {σ σ1 : An} {v : AV} {q d a : Nat} (hp : An4 o.op = some q) (hw : Rd (ev fr (.tmp q)) d) (hne : a≠d) (h : Fc E orc ops o fr σ = some (v,σ1)) : σ1[a]? = σ[a]?:=by
  unfold An4 at hp
  split at hp
  case h_2 => cases hp
  rename_i c ho
  split at hp
  case h_2 => cases hp
  rename_i p' y hc hargs
  cases hp
  have hf : G4 E ops o = false:=AdI (fun _ _ _ h => by rw [ho] at h;cases h) (fun _ _ _ h => by rw [ho] at h;cases h)
  obtain ⟨f,T,hx⟩ : ∃ f T,ev fr (.tmp q) = .bs f d T 0 T:=by
    unfold Rd at hw
    split at hw
    · rename_i e;obtain ⟨rfl,rfl,rfl⟩:=hw;exact ⟨_,_,e⟩
    · cases hw
  rw [Xd hf] at h
  cases hwn : Mc ops fr o with
  | none => simp [hwn] at h
  | some b =>
    cases b with
    | false => simp only [hwn] at h;cases h;rfl
    | true =>
      simp only [hwn,ho,C7,hc,Fq,hargs,List.map_cons,List.map_nil,hx] at h
      cases hts : c.argTypes.toList with
      | nil => simp [Be,hts] at h
      | cons t r =>
        cases r with
        | nil => simp [Be,hts] at h
        | cons u r =>
          simp only [Be,hts] at h
          split at h
          case h_2 => cases h
          split at h
          · cases h
          · exact AeM hne h
inductive SepT (E : Env) (orc : Option Tmp→Orc) (ops : Array Oper) (x y : Oper) (st : St) : Prop
 | free (h : AqG E orc ops y st.fr)
 | look (a : Nat) (h : AqC E orc ops y st.fr a) (hx : ∀ σ1 v,Fc E orc ops x st.fr st.σ = some (v,σ1)→σ1[a]? = st.σ[a]?)
def BsL (n : Nat) (fr : Fr) : List (Nat×Nat)→Prop
 | [] => True
 | p :: ps => bsId (evL n fr (.tmp p.1)) = some p.2∧BsL n fr ps
def AdS (n : Nat) (fr : Fr) : List (Nat×Nat)→Prop
 | [] => True
 | p :: ps => Rd (evL n fr (.tmp p.1)) p.2∧AdS n fr ps
theorem AaD {n : Nat} {fr : Fr} : ∀ {ps : List (Nat×Nat)} {t a : Nat},AdS n fr ps→AdQ ps t = some a→Rd (evL n fr (.tmp t)) a
  | [],t,a,_,h => by cases h
  | p :: ps,t,a,hr,h => by
    unfold AdQ at h
    rw [List.find?_cons] at h
    by_cases e : (p.1 == t) = true
    · simp only [e] at h
      cases h
      rw [← eq_of_beq e]
      exact hr.1
    · simp only [e] at h
      exact AaD hr.2 h
end Go.Rv
