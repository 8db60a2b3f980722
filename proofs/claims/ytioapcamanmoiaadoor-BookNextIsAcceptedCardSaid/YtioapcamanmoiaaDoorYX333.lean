/-
  Part 33.
-/
import Derived.Test.YtioapcamanmoiaaDoorYX332
namespace Go.Rv
open Go.RowKit
set_option linter.unusedVariables false
set_option linter.unusedSimpArgs false
variable {E : Env}
def bsId : AV→Option Nat
 | .bs _ id _ _ _ => some id
 | _ => none
def Pu : AV→Nat→Prop
 | .bs _ id tot off len,d => id = d∧off = 0∧len = tot
 | _,_ => False
def sliceP : Op→Option Nat
 | .slice _ (.tmp p) _ _ _ => some p
 | _ => none
def Aq5 : Op→Option Nat
 | .call c => match c.callee,c.args.toList with
  | .builtin .append,[.tmp p,_] => some p
  | _,_ => none
 | _ => none
def Ar8 (E : Env) (orc : Option Tmp→Orc) (ops : Array Oper) (y : Oper) (fr : List AV) (a : Nat) : Prop :=
 ∀ (σ σ' : Am) (v : AV),G2 E orc ops y fr σ = some (v,σ')→σ' = σ∧∀ σ2 : Am,σ2[a]? = σ[a]?→G2 E orc ops y fr σ2 = some (v,σ2)
def App (E : Env) (orc : Option Tmp→Orc) (ops : Array Oper) (y : Oper) (fr : List AV) : Prop :=
 ∀ (σ σ' : Am) (v : AV),G2 E orc ops y fr σ = some (v,σ')→σ' = σ∧∀ σ2 : Am,G2 E orc ops y fr σ2 = some (v,σ2)
theorem Y4 {orc : Option Tmp→Orc} {ops : Array Oper} {o : Oper} {fr : List AV} (hf : Ib E ops o = false) (σ : Am) : G2 E orc ops o fr σ = match L2 ops fr o with
    | some true => El E (orc o.dst) o.op fr σ
    | some false => some (.tup [],σ)
    | none => none:=by
  have e : Jc false σ = some:=by funext r;simp [Jc]
  unfold G2
  rw [hf]
  split <;> simp_all [Ci]
theorem AfA {ops : Array Oper} {o : Oper} (h1 : ∀ t n l,o.op≠.buildSlice t n l) (h2 : ∀ s d x,o.op≠.convert s d x) : Ib E ops o = false:=by
 cases hf : Ib E ops o
 ·rfl
 ·rcases Gg hf with ⟨t,n,l,h⟩ | ⟨s,d,x,h,_⟩
  ·exact (h1 _ _ _ h).elim
  ·exact (h2 _ _ _ h).elim
theorem Agi {f : Bool} {id T a : Nat} {t : TypeId} {x v : AV} {σ σ1 : Am} (hne : a≠id) (h : Ps E σ t (.bs f id T 0 T) x = some (v,σ1)) : σ1[a]? = σ[a]?:=by
  unfold Ps at h
  split at h
  · cases h
  split at h
  case h_2 => cases h
  split at h
  case h_2 => cases h
  split at h
  · cases h
  split at h
  case isFalse => cases h
  simp only at h
  split at h
  case h_3 => cases h
  case h_2 =>
    generalize M8 _ = z at h
    cases z with
    | none => cases h
    | some nl =>
      simp only at h
      split at h
      · cases h;exact List.getElem?_set_ne (fun e => hne e.symm)
      · cases h
  split at h
  case isFalse => cases h
  rw [if_pos (by simp)] at h
  cases h
  exact List.getElem?_set_ne (fun e => hne e.symm)
theorem AkR {orc : Option Tmp→Orc} {ops : Array Oper} {o : Oper} {fr : List AV} {σ σ1 : Am} {v : AV} {q d a : Nat} (hp : Aq5 o.op = some q) (hw : Pu (ev fr (.tmp q)) d) (hne : a≠d) (h : G2 E orc ops o fr σ = some (v,σ1)) : σ1[a]? = σ[a]?:=by
  unfold Aq5 at hp
  split at hp
  case h_2 => cases hp
  rename_i c ho
  split at hp
  case h_2 => cases hp
  rename_i p' y hc hargs
  cases hp
  have hf : Ib E ops o = false:=AfA (fun _ _ _ h => by rw [ho] at h;cases h) (fun _ _ _ h => by rw [ho] at h;cases h)
  obtain ⟨f,T,hx⟩ : ∃ f T,ev fr (.tmp q) = .bs f d T 0 T:=by
    unfold Pu at hw
    split at hw
    · rename_i e;obtain ⟨rfl,rfl,rfl⟩:=hw;exact ⟨_,_,e⟩
    · cases hw
  rw [Y4 hf] at h
  cases hwn : L2 ops fr o with
  | none => simp [hwn] at h
  | some b =>
    cases b with
    | false => simp only [hwn] at h;cases h;rfl
    | true =>
      simp only [hwn,ho,El,hc,Hb,hargs,List.map_cons,List.map_nil,hx] at h
      cases hts : c.argTypes.toList with
      | nil => simp [Bv,hts] at h
      | cons t r =>
        cases r with
        | nil => simp [Bv,hts] at h
        | cons u r =>
          simp only [Bv,hts] at h
          split at h
          case h_2 => cases h
          split at h
          · cases h
          · exact Agi hne h
inductive SepT (E : Env) (orc : Option Tmp→Orc) (ops : Array Oper) (x y : Oper) (st : St) : Prop
 | free (h : App E orc ops y st.fr)
 | look (a : Nat) (h : Ar8 E orc ops y st.fr a) (hx : ∀ σ1 v,G2 E orc ops x st.fr st.σ = some (v,σ1)→σ1[a]? = st.σ[a]?)
def BsL (n : Nat) (fr : Fr) : List (Nat×Nat)→Prop
 | [] => True
 | p :: ps => bsId (evL n fr (.tmp p.1)) = some p.2∧BsL n fr ps
def Xj (n : Nat) (fr : Fr) : List (Nat×Nat)→Prop
 | [] => True
 | p :: ps => Pu (evL n fr (.tmp p.1)) p.2∧Xj n fr ps
theorem Xk {n : Nat} {fr : Fr} : ∀ {ps : List (Nat×Nat)} {t a : Nat},Xj n fr ps→Ack ps t = some a→Pu (evL n fr (.tmp t)) a
  | [],t,a,_,h => by cases h
  | p :: ps,t,a,hr,h => by
    unfold Ack at h
    rw [List.find?_cons] at h
    by_cases e : (p.1 == t) = true
    · simp only [e] at h
      cases h
      rw [← eq_of_beq e]
      exact hr.1
    · simp only [e] at h
      exact Xk hr.2 h
end Go.Rv
