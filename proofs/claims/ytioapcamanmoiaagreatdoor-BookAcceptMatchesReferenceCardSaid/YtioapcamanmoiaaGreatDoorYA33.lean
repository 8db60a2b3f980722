/-
  Part 33.
-/
import Derived.Test.YtioapcamanmoiaaGreatDoorYA32
namespace Go.Rv
open Go.RowKit
variable{ops:Array Oper}{o:Oper}
variable {E:Env}
def bsId:AV→Option Nat
 |.bs _ id _ _ _=>some id
 |_=>none
def MK:AV→Nat→Prop
 |.bs _ id tot off len,d=>id=d∧off=0∧len=tot
 |_,_=>False
def sliceP:Op→Option Nat
 |.slice _ (.tmp p) _ _ _=>some p
 |_=>none
def AoC:Op→Option Nat
 |.call c=>match c.callee,c.args.toList with
  |.builtin .append,[.tmp p,_]=>some p
  |_,_=>none
 |_=>none
def Ap5(E:Env)(orc:Option Tmp→Orc)(ops:Array Oper)(y:Oper)(fr:List AV)(a:Nat):Prop :=
 ∀(σ σ':Ad) (v:AV),EV E orc ops y fr σ=some (v,σ')→σ'=σ∧∀σ2:Ad,σ2[a]?=σ[a]?→EV E orc ops y fr σ2=some (v,σ2)
def ArW(E:Env)(orc:Option Tmp→Orc)(ops:Array Oper)(y:Oper)(fr:List AV):Prop :=
 ∀(σ σ':Ad) (v:AV),EV E orc ops y fr σ=some (v,σ')→σ'=σ∧∀σ2:Ad,EV E orc ops y fr σ2=some (v,σ2)
theorem S2{orc:Option Tmp→Orc}{fr:List AV}(hf:FX E ops o=false)(σ:Ad):EV E orc ops o fr σ=match Ke ops fr o with
 |some true=>Dg E (orc o.dst) o.op fr σ
 |some false=>some (.tup [],σ)
 |none=>none:=by
 have e:G8 false σ=some:=by funext r;simp[G8]
 unfold EV;rw[hf];split<;>simp_all [Bw]
theorem YW(h1:∀t n l,o.op≠.buildSlice t n l)(h2:∀s d x,o.op≠.convert s d x):FX E ops o=false:=by
 cases hf:FX E ops o
 ·rfl
 ·rcases Es hf with⟨t,n,l,h⟩|⟨s,d,x,h,_⟩
  ·exact(h1 _ _ _ h).elim
  ·exact(h2 _ _ _ h).elim
theorem Aaw{f:Bool}{id T a:Nat}{t:TypeId}{x v:AV}{σ σ1:Ad}(hne:a≠id)(h:L0 E σ t (.bs f id T 0 T) x=some (v,σ1)):σ1[a]?=σ[a]?:=by
  unfold L0 at h;split at h
  · cases h
  split at h
  case h_2=>cases h
  split at h
  case h_2=>cases h
  split at h
  · cases h
  split at h
  case isFalse=>cases h
  simp only at h;split at h
  case h_3=>cases h
  case h_2=>
    generalize IJ _=z at h;cases z with
    |none=>cases h
    | some nl=>
      simp only at h;split at h
      · cases h;exact AtF (fun e=>hne e.symm)
      · cases h
  split at h
  case isFalse=>cases h
  rw[AsU (by simp)]at h;cases h;exact AtF (fun e=>hne e.symm)
theorem AeM{orc:Option Tmp→Orc}{fr:List AV}{σ σ1:Ad}{v:AV}{q d a:Nat}(hp:AoC o.op=some q)(hw:MK (ev fr (.tmp q)) d)(hne:a≠d)(h:EV E orc ops o fr σ=some (v,σ1)):σ1[a]?=σ[a]?:=by
  unfold AoC at hp;split at hp
  case h_2=>cases hp
  rename_i c ho;split at hp
  case h_2=>cases hp
  rename_i p' y hc hargs;cases hp;have hf:FX E ops o=false:=YW (fun _ _ _ h=>by rw[ho]at h;cases h) (fun _ _ _ h=>by rw[ho]at h;cases h)
  obtain⟨f,T,hx⟩:∃f T,ev fr (.tmp q)=.bs f d T 0 T:=by
    unfold MK at hw;split at hw
    · rename_i e;obtain⟨rfl,rfl,rfl⟩:=hw;exact⟨_,_,e⟩
    · cases hw
  rw[S2 hf]at h;cases hwn:Ke ops fr o with
  |none=>simp[hwn]at h
  | some b=>
    cases b with
    |false=>simp only[hwn]at h;cases h;rfl
    | true=>
      simp only[hwn,ho,Dg,hc,Ff,hargs,AuC,Av9,hx]at h;cases hts:c.argTypes.toList with
      |nil=>simp[Bp,hts]at h
      | cons t r=>
        cases r with
        |nil=>simp[Bp,hts]at h
        | cons u r=>
          simp only[Bp,hts]at h;split at h
          case h_2=>cases h
          split at h
          · cases h
          · exact Aaw hne h
inductive SepT(E:Env)(orc:Option Tmp→Orc)(ops:Array Oper)(x y:Oper)(st:St):Prop
  |free (h:ArW E orc ops y st.fr)
  |look (a:Nat) (h:Ap5 E orc ops y st.fr a) (hx:∀σ1 v,EV E orc ops x st.fr st.σ=some (v,σ1)→σ1[a]?=st.σ[a]?)
def BsL(n:Nat)(fr:Fr):List (Nat×Nat)→Prop
 |[]=>True
 |p::ps=>bsId (evL n fr (.tmp p.1))=some p.2∧BsL n fr ps
def ZQ(n:Nat)(fr:Fr):List (Nat×Nat)→Prop
 |[]=>True
 |p::ps=>MK (evL n fr (.tmp p.1)) p.2∧ZQ n fr ps
theorem Vk{n:Nat}{fr:Fr}:∀{ps:List (Nat×Nat)} {t a:Nat},ZQ n fr ps→Ym ps t=some a→MK (evL n fr (.tmp t)) a
  |[],t,a,_,h=>by cases h
  | p :: ps,t,a,hr,h=>by
    unfold Ym at h;rw[Av8]at h;by_cases e:(p.1==t)=true
    · simp only[e]at h
      cases h;rw[←eq_of_beq e];exact hr.1
    · simp only[e]at h
      exact Vk hr.2 h
end Go.Rv
