/-
  Part 33.
-/
import Derived.Test.YtioapcamanmoiaaGreatDoorYG32
namespace Go.Rv
open Go.RowKit
set_option linter.unusedVariables false
set_option linter.unusedSimpArgs false
variable{ops:Array Oper}{o:Oper}
variable {E:Env}
def bsId:AV→Option Nat
 |.bs _ id _ _ _=>some id
 |_=>none
def KA:AV→Nat→Prop
 |.bs _ id tot off len,d=>id=d∧off=0∧len=tot
 |_,_=>False
def sliceP:Op→Option Nat
 |.slice _ (.tmp p) _ _ _=>some p
 |_=>none
def AlF:Op→Option Nat
 |.call c=>match c.callee,c.args.toList with
  |.builtin .append,[.tmp p,_]=>some p
  |_,_=>none
 |_=>none
def AnQ(E:Env)(orc:Option Tmp→Orc)(ops:Array Oper)(y:Oper)(fr:List AV)(a:Nat):Prop :=
 ∀(σ σ':Am) (v:AV),E0 E orc ops y fr σ=some (v,σ')→σ'=σ∧∀σ2:Am,σ2[a]?=σ[a]?→E0 E orc ops y fr σ2=some (v,σ2)
def Anl(E:Env)(orc:Option Tmp→Orc)(ops:Array Oper)(y:Oper)(fr:List AV):Prop :=
 ∀(σ σ':Am) (v:AV),E0 E orc ops y fr σ=some (v,σ')→σ'=σ∧∀σ2:Am,E0 E orc ops y fr σ2=some (v,σ2)
theorem Qs{orc:Option Tmp→Orc}{fr:List AV}(hf:F7 E ops o=false)(σ:Am):E0 E orc ops o fr σ=match Ix ops fr o with
 |some true=>CI E (orc o.dst) o.op fr σ
 |some false=>some (.tup [],σ)
 |none=>none:=by
 have e:FF false σ=some:=by funext r;simp[FF]
 unfold E0;rw[hf];split<;>simp_all [Bk]
theorem Wo(h1:∀t n l,o.op≠.buildSlice t n l)(h2:∀s d x,o.op≠.convert s d x):F7 E ops o=false:=by
 cases hf:F7 E ops o
 ·rfl
 ·rcases Ec hf with⟨t,n,l,h⟩|⟨s,d,x,h,_⟩
  ·exact(h1 _ _ _ h).elim
  ·exact(h2 _ _ _ h).elim
theorem Xr{f:Bool}{id T a:Nat}{t:TypeId}{x v:AV}{σ σ1:Am}(hne:a≠id)(h:JF E σ t (.bs f id T 0 T) x=some (v,σ1)):σ1[a]?=σ[a]?:=by
  unfold JF at h;split at h
  · cases h
  split at h
  case h_2=>cases h
  split at h
  case h_2=>cases h
  split at h
  · cases h
  split at h
  case isFalse=>cases h
  simp only at h;split at h
  case h_3=>cases h
  case h_2=>
    generalize HH _=z at h;cases z with
    |none=>cases h
    | some nl=>
      simp only at h;split at h
      · cases h;exact Aqx (fun e=>hne e.symm)
      · cases h
  split at h
  case isFalse=>cases h
  rw[ApU (by simp)]at h;cases h;exact Aqx (fun e=>hne e.symm)
theorem Acs{orc:Option Tmp→Orc}{fr:List AV}{σ σ1:Am}{v:AV}{q d a:Nat}(hp:AlF o.op=some q)(hw:KA (ev fr (.tmp q)) d)(hne:a≠d)(h:E0 E orc ops o fr σ=some (v,σ1)):σ1[a]?=σ[a]?:=by
  unfold AlF at hp;split at hp
  case h_2=>cases hp
  rename_i c ho;split at hp
  case h_2=>cases hp
  rename_i p' y hc hargs;cases hp;have hf:F7 E ops o=false:=Wo (fun _ _ _ h=>by rw[ho]at h;cases h) (fun _ _ _ h=>by rw[ho]at h;cases h)
  obtain⟨f,T,hx⟩:∃f T,ev fr (.tmp q)=.bs f d T 0 T:=by
    unfold KA at hw;split at hw
    · rename_i e;obtain⟨rfl,rfl,rfl⟩:=hw;exact⟨_,_,e⟩
    · cases hw
  rw[Qs hf]at h;cases hwn:Ix ops fr o with
  |none=>simp[hwn]at h
  | some b=>
    cases b with
    |false=>simp only[hwn]at h;cases h;rfl
    | true=>
      simp only[hwn,ho,CI,hc,E4,hargs,Aru,AsX,hx]at h;cases hts:c.argTypes.toList with
      |nil=>simp[Bf,hts]at h
      | cons t r=>
        cases r with
        |nil=>simp[Bf,hts]at h
        | cons u r=>
          simp only[Bf,hts]at h;split at h
          case h_2=>cases h
          split at h
          · cases h
          · exact Xr hne h
inductive SepT(E:Env)(orc:Option Tmp→Orc)(ops:Array Oper)(x y:Oper)(st:St):Prop
  |free (h:Anl E orc ops y st.fr)
  |look (a:Nat) (h:AnQ E orc ops y st.fr a) (hx:∀σ1 v,E0 E orc ops x st.fr st.σ=some (v,σ1)→σ1[a]?=st.σ[a]?)
def BsL(n:Nat)(fr:Fr):List (Nat×Nat)→Prop
 |[]=>True
 |p::ps=>bsId (evL n fr (.tmp p.1))=some p.2∧BsL n fr ps
def W1(n:Nat)(fr:Fr):List (Nat×Nat)→Prop
 |[]=>True
 |p::ps=>KA (evL n fr (.tmp p.1)) p.2∧W1 n fr ps
theorem Se{n:Nat}{fr:Fr}:∀{ps:List (Nat×Nat)} {t a:Nat},W1 n fr ps→WU ps t=some a→KA (evL n fr (.tmp t)) a
  |[],t,a,_,h=>by cases h
  | p :: ps,t,a,hr,h=>by
    unfold WU at h;rw[AsW]at h;by_cases e:(p.1==t)=true
    · simp only[e]at h
      cases h;rw[←eq_of_beq e];exact hr.1
    · simp only[e]at h
      exact Se hr.2 h
end Go.Rv
