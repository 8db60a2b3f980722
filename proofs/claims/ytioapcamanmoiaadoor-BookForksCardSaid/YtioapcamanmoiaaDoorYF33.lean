/-
  Part 33.
-/
import Derived.Test.YtioapcamanmoiaaDoorYF32
namespace Go.Rv
open Go.RowKit
set_option linter.unusedVariables false
set_option linter.unusedSimpArgs false
variable{ops:Array Oper}{o:Oper}
variable {E:Env}
def bsId:AV→Option Nat
 |.bs _ id _ _ _=>some id
 |_=>none
def Ki:AV→Nat→Prop
 |.bs _ id tot off len,d=>id=d∧off=0∧len=tot
 |_,_=>False
def sliceP:Op→Option Nat
 |.slice _ (.tmp p) _ _ _=>some p
 |_=>none
def AgY:Op→Option Nat
 |.call c=>match c.callee,c.args.toList with
  |.builtin .append,[.tmp p,_]=>some p
  |_,_=>none
 |_=>none
def AiJ(E:Env)(orc:Option Tmp→Orc)(ops:Array Oper)(y:Oper)(fr:List AV)(a:Nat):Prop :=
 ∀(σ σ':Al) (v:AV),DY E orc ops y fr σ=some (v,σ')→σ'=σ∧∀σ2:Al,σ2[a]?=σ[a]?→DY E orc ops y fr σ2=some (v,σ2)
def AgP(E:Env)(orc:Option Tmp→Orc)(ops:Array Oper)(y:Oper)(fr:List AV):Prop :=
 ∀(σ σ':Al) (v:AV),DY E orc ops y fr σ=some (v,σ')→σ'=σ∧∀σ2:Al,DY E orc ops y fr σ2=some (v,σ2)
theorem O2{orc:Option Tmp→Orc}{fr:List AV}(hf:EV E ops o=false)(σ:Al):DY E orc ops o fr σ=match HT ops fr o with
 |some true=>CG E (orc o.dst) o.op fr σ
 |some false=>some (.tup [],σ)
 |none=>none:=by
 have e:Fs false σ=some:=by funext r;simp[Fs]
 unfold DY;rw[hf];split<;>simp_all [Bt]
theorem UH(h1:∀t n l,o.op≠.buildSlice t n l)(h2:∀s d x,o.op≠.convert s d x):EV E ops o=false:=by
 cases hf:EV E ops o
 ·rfl
 ·rcases DK hf with⟨t,n,l,h⟩|⟨s,d,x,h,_⟩
  ·exact(h1 _ _ _ h).elim
  ·exact(h2 _ _ _ h).elim
theorem UT{f:Bool}{id T a:Nat}{t:TypeId}{x v:AV}{σ σ1:Al}(hne:a≠id)(h:IB E σ t (.bs f id T 0 T) x=some (v,σ1)):σ1[a]?=σ[a]?:=by
  unfold IB at h;split at h
  · cases h
  split at h
  case h_2=>cases h
  split at h
  case h_2=>cases h
  split at h
  · cases h
  split at h
  case isFalse=>cases h
  simp only at h;split at h
  case h_3=>cases h
  case h_2=>
    generalize Hw _=z at h;cases z with
    |none=>cases h
    | some nl=>
      simp only at h;split at h
      · cases h;exact Alt (fun e=>hne e.symm)
      · cases h
  split at h
  case isFalse=>cases h
  rw[AkS (by simp)]at h;cases h;exact Alt (fun e=>hne e.symm)
theorem YY{orc:Option Tmp→Orc}{fr:List AV}{σ σ1:Al}{v:AV}{q d a:Nat}(hp:AgY o.op=some q)(hw:Ki (ev fr (.tmp q)) d)(hne:a≠d)(h:DY E orc ops o fr σ=some (v,σ1)):σ1[a]?=σ[a]?:=by
  unfold AgY at hp;split at hp
  case h_2=>cases hp
  rename_i c ho;split at hp
  case h_2=>cases hp
  rename_i p' y hc hargs;cases hp;have hf:EV E ops o=false:=UH (fun _ _ _ h=>by rw[ho]at h;cases h) (fun _ _ _ h=>by rw[ho]at h;cases h)
  obtain⟨f,T,hx⟩:∃f T,ev fr (.tmp q)=.bs f d T 0 T:=by
    unfold Ki at hw;split at hw
    · rename_i e;obtain⟨rfl,rfl,rfl⟩:=hw;exact⟨_,_,e⟩
    · cases hw
  rw[O2 hf]at h;cases hwn:HT ops fr o with
  |none=>simp[hwn]at h
  | some b=>
    cases b with
    |false=>simp only[hwn]at h;cases h;rfl
    | true=>
      simp only[hwn,ho,CG,hc,Ei,hargs,Al6,Anh,hx]at h;cases hts:c.argTypes.toList with
      |nil=>simp[AW,hts]at h
      | cons t r=>
        cases r with
        |nil=>simp[AW,hts]at h
        | cons u r=>
          simp only[AW,hts]at h;split at h
          case h_2=>cases h
          split at h
          · cases h
          · exact UT hne h
inductive SepT(E:Env)(orc:Option Tmp→Orc)(ops:Array Oper)(x y:Oper)(st:St):Prop
  |free (h:AgP E orc ops y st.fr)
  |look (a:Nat) (h:AiJ E orc ops y st.fr a) (hx:∀σ1 v,DY E orc ops x st.fr st.σ=some (v,σ1)→σ1[a]?=st.σ[a]?)
def BsL(n:Nat)(fr:Fr):List (Nat×Nat)→Prop
 |[]=>True
 |p::ps=>bsId (evL n fr (.tmp p.1))=some p.2∧BsL n fr ps
def U1(n:Nat)(fr:Fr):List (Nat×Nat)→Prop
 |[]=>True
 |p::ps=>Ki (evL n fr (.tmp p.1)) p.2∧U1 n fr ps
theorem QM{n:Nat}{fr:Fr}:∀{ps:List (Nat×Nat)} {t a:Nat},U1 n fr ps→TZ ps t=some a→Ki (evL n fr (.tmp t)) a
  |[],t,a,_,h=>by cases h
  | p :: ps,t,a,hr,h=>by
    unfold TZ at h;rw[AnA]at h;by_cases e:(p.1==t)=true
    · simp only[e]at h
      cases h;rw[←eq_of_beq e];exact hr.1
    · simp only[e]at h
      exact QM hr.2 h
end Go.Rv
