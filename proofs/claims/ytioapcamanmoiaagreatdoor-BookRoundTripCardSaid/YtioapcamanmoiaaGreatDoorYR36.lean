/-
  Part 36.
-/
import Derived.Test.YtioapcamanmoiaaGreatDoorYR35
namespace Go.Rv
open Go.RowKit
set_option linter.unusedVariables false
set_option linter.unusedSimpArgs false
variable{ops:Array Oper}{o:Oper}
variable {E:Env}
def bsId:AV→Option Nat
 |.bs _ id _ _ _=>some id
 |_=>none
def KU:AV→Nat→Prop
 |.bs _ id tot off len,d=>id=d∧off=0∧len=tot
 |_,_=>False
def sliceP:Op→Option Nat
 |.slice _ (.tmp p) _ _ _=>some p
 |_=>none
def Akx:Op→Option Nat
 |.call c=>match c.callee,c.args.toList with
  |.builtin .append,[.tmp p,_]=>some p
  |_,_=>none
 |_=>none
def Al8(E:Env)(orc:Option Tmp→Orc)(ops:Array Oper)(y:Oper)(fr:List AV)(a:Nat):Prop :=
 ∀(σ σ':Ab) (v:AV),DO E orc ops y fr σ=some (v,σ')→σ'=σ∧∀σ2:Ab,σ2[a]?=σ[a]?→DO E orc ops y fr σ2=some (v,σ2)
def AlW(E:Env)(orc:Option Tmp→Orc)(ops:Array Oper)(y:Oper)(fr:List AV):Prop :=
 ∀(σ σ':Ab) (v:AV),DO E orc ops y fr σ=some (v,σ')→σ'=σ∧∀σ2:Ab,DO E orc ops y fr σ2=some (v,σ2)
theorem Qb{orc:Option Tmp→Orc}{fr:List AV}(hf:EI E ops o=false)(σ:Ab):DO E orc ops o fr σ=match Iw ops fr o with
 |some true=>Cv E (orc o.dst) o.op fr σ
 |some false=>some (.tup [],σ)
 |none=>none:=by
 have e:Fh false σ=some:=by funext r;simp[Fh]
 unfold DO;rw[hf];split<;>simp_all [Bt]
theorem VW(h1:∀t n l,o.op≠.buildSlice t n l)(h2:∀s d x,o.op≠.convert s d x):EI E ops o=false:=by
 cases hf:EI E ops o
 ·rfl
 ·rcases Db hf with⟨t,n,l,h⟩|⟨s,d,x,h,_⟩
  ·exact(h1 _ _ _ h).elim
  ·exact(h2 _ _ _ h).elim
theorem XE{f:Bool}{id T a:Nat}{t:TypeId}{x v:AV}{σ σ1:Ab}(hne:a≠id)(h:J2 E σ t (.bs f id T 0 T) x=some (v,σ1)):σ1[a]?=σ[a]?:=by
  unfold J2 at h;split at h
  · cases h
  split at h
  case h_2=>cases h
  split at h
  case h_2=>cases h
  split at h
  · cases h
  split at h
  case isFalse=>cases h
  simp only at h;split at h
  case h_3=>cases h
  case h_2=>
    generalize HB _=z at h;cases z with
    |none=>cases h
    | some nl=>
      simp only at h;split at h
      · cases h;exact Apv (fun e=>hne e.symm)
      · cases h
  split at h
  case isFalse=>cases h
  rw[AoO (by simp)]at h;cases h;exact Apv (fun e=>hne e.symm)
theorem AcE{orc:Option Tmp→Orc}{fr:List AV}{σ σ1:Ab}{v:AV}{q d a:Nat}(hp:Akx o.op=some q)(hw:KU (ev fr (.tmp q)) d)(hne:a≠d)(h:DO E orc ops o fr σ=some (v,σ1)):σ1[a]?=σ[a]?:=by
  unfold Akx at hp;split at hp
  case h_2=>cases hp
  rename_i c ho;split at hp
  case h_2=>cases hp
  rename_i p' y hc hargs;cases hp;have hf:EI E ops o=false:=VW (fun _ _ _ h=>by rw[ho]at h;cases h) (fun _ _ _ h=>by rw[ho]at h;cases h)
  obtain⟨f,T,hx⟩:∃f T,ev fr (.tmp q)=.bs f d T 0 T:=by
    unfold KU at hw;split at hw
    · rename_i e;obtain⟨rfl,rfl,rfl⟩:=hw;exact⟨_,_,e⟩
    · cases hw
  rw[Qb hf]at h;cases hwn:Iw ops fr o with
  |none=>simp[hwn]at h
  | some b=>
    cases b with
    |false=>simp only[hwn]at h;cases h;rfl
    | true=>
      simp only[hwn,ho,Cv,hc,DZ,hargs,Ap1,Aq6,hx]at h;cases hts:c.argTypes.toList with
      |nil=>simp[AZ,hts]at h
      | cons t r=>
        cases r with
        |nil=>simp[AZ,hts]at h
        | cons u r=>
          simp only[AZ,hts]at h;split at h
          case h_2=>cases h
          split at h
          · cases h
          · exact XE hne h
inductive SepT(E:Env)(orc:Option Tmp→Orc)(ops:Array Oper)(x y:Oper)(st:St):Prop
  |free (h:AlW E orc ops y st.fr)
  |look (a:Nat) (h:Al8 E orc ops y st.fr a) (hx:∀σ1 v,DO E orc ops x st.fr st.σ=some (v,σ1)→σ1[a]?=st.σ[a]?)
def BsL(n:Nat)(fr:Fr):List (Nat×Nat)→Prop
 |[]=>True
 |p::ps=>bsId (evL n fr (.tmp p.1))=some p.2∧BsL n fr ps
def VQ(n:Nat)(fr:Fr):List (Nat×Nat)→Prop
 |[]=>True
 |p::ps=>KU (evL n fr (.tmp p.1)) p.2∧VQ n fr ps
theorem RC{n:Nat}{fr:Fr}:∀{ps:List (Nat×Nat)} {t a:Nat},VQ n fr ps→VO ps t=some a→KU (evL n fr (.tmp t)) a
  |[],t,a,_,h=>by cases h
  | p :: ps,t,a,hr,h=>by
    unfold VO at h;rw[Ar0]at h;by_cases e:(p.1==t)=true
    · simp only[e]at h
      cases h;rw[←eq_of_beq e];exact hr.1
    · simp only[e]at h
      exact RC hr.2 h
end Go.Rv
