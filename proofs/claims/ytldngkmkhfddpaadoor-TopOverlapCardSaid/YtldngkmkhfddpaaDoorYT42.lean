/-
  Part 42.
-/
import Derived.Test.YtldngkmkhfddpaaDoorYT41
import Derived.DeepKeys3
namespace Go.Rv
set_option linter.unusedVariables false
set_option linter.unusedSimpArgs false
section
variable {E:Env}{w w':World}{g:Gh}{σ:Ad}
end
variable {B:Base}{o:Out}{w w':World}{g g':Gh}{σ:Ad}
section
variable {α:Type}{c:α→AV}{N n:Nat}{a b:Arr α N}{r r':List AV}{σ:Ad}
theorem ZF(h:N≤n):List.drop n (C1 c a.l++r)=List.drop (n-N) r:=by
 rw[List.drop_append,CM,List.drop_of_length_le (by rw[CM];exact h)];rfl
theorem Yd(h:N≤n):List.take n (C1 c a.l++r)=C1 c a.l++List.take (n-N) r:=by
 rw[List.take_append,CM,List.take_of_length_le (by rw[CM];exact h)]
theorem Aa1(h:N≤n):(C1 c a.l++r)[n]?=r[n-N]?:=by
 rw[List.getElem?_append_right (by rw[CM];exact h),CM]
theorem Ab0{v:AV}(h:N≤n):(C1 c a.l++r).set n v=C1 c a.l++r.set (n-N) v:=by
 rw[List.set_append_right _ _ (by rw[CM];exact h),CM]
theorem Si:∀{xs l r:List AV},xs.length=l.length→splice (l++r) 0 xs=xs++r:=by
  have key:∀(xs p l r:List AV),xs.length=l.length→splice (p++(l++r)) p.length xs=p++(xs++r):=by
    intro xs
    induction xs with
    | nil=>
      intro p l r h
      have:l=[]:=List.length_eq_zero_iff.1 h.symm
      subst this
      rfl
    | cons x xs ih=>
      intro p l r h
      match l,h with
      | y::l,h=>
        rw[Gy,List.set_append_right _ _ (Nat.le_refl _),Nat.sub_self,List.cons_append,List.set_cons_zero]
        have:=ih (p++[x]) l r (by simpa using h)
        simpa using this
  intro xs l r h
  exact key xs [] l r h
theorem Tz:splice (C1 c a.l++r) 0 (C1 c b.l)=C1 c b.l++r:=Si (by rw[CM,CM])
theorem Ik{x:AV}:∀{xs:List AV} {cs:List AV} {n:Nat},splice (x::cs) (n+1) xs=x::splice cs n xs
  |[],cs,n=>rfl
  | y::xs,cs,n=>by
    rw[Gy,List.set_cons_succ,Ik,Gy]
theorem K4{ys:List AV}:∀{p r:List AV},splice (p++r) p.length ys=p++splice r 0 ys
  |[],r=>rfl
  | x::p,r=>by
    show splice (x::(p++r)) (p.length+1) ys=_
    rw[Ik,K4];rfl
theorem Pl:∀{xs l r ys:List AV},xs.length=l.length→splice (l++r) 0 (xs++ys)=xs++splice r 0 ys:=by
  have key:∀(xs p l r ys:List AV),xs.length=l.length→splice (p++(l++r)) p.length (xs++ys)=p++(xs++splice r 0 ys):=by
    intro xs
    induction xs with
    | nil=>
      intro p l r ys h
      have:l=[]:=List.length_eq_zero_iff.1 h.symm
      subst this
      exact K4
    | cons x xs ih=>
      intro p l r ys h
      match l,h with
      | y::l,h=>
        rw[show(x::xs)++ys=x::(xs++ys)from rfl,Gy,List.set_append_right _ _ (Nat.le_refl _),Nat.sub_self,List.cons_append,List.set_cons_zero]
        have:=ih (p++[x]) l r ys (by simpa using h)
        simpa using this
  intro xs l r ys h
  exact key xs [] l r ys h
theorem PK{r2:List AV}:splice (C1 c a.l++r) 0 (C1 c b.l++r2)=C1 c b.l++splice r 0 r2:=Pl (by rw[CM,CM])
theorem Aag(h:∀x,AZ σ (c x)=some (c x)){l:List α}:fzCells σ (C1 c l++r)=(fzCells σ r).bind fun ys=>some (C1 c l++ys):=by
  induction l with
  |nil=>show fzCells σ r=_;cases fzCells σ r<;>rfl
  | cons x l ih=>
    show(AZ σ (c x)).bind (fun y=>(fzCells σ (C1 c l++r)).bind fun ys=>some (y::ys))=_
    rw[h,ih]
    cases fzCells σ r<;>rfl
theorem Z8{l:List UInt8}:fzCells σ (C1 u8 l++r)=(fzCells σ r).bind fun ys=>some (C1 u8 l++ys):=Aag fun _=>rfl
theorem AdE{sel:List Nat}(h:∀x,wk0 sel (c x) (c x)){l:List α}:wkL sel (C1 c l++r) (C1 c l++r')=wkL sel r r':=by
  induction l with
  |nil=>rfl
  | cons x l ih=>
    show(wk0 sel (c x) (c x)∧wkL sel (C1 c l++r) (C1 c l++r'))=_
    rw[ih,eq_true (h x),true_and]
end
attribute [go_sem] PK ZF Yd Aa1 Ab0 Tz Z8 List.length_append List.all_append
attribute [go_sem ↓] Ik
def M2{α:Type}(c:α→AV)(l:List ((Int×Int)×α)):List ((Int×Int)×AV):=l.map fun p=>(p.1,c p.2)
section
variable {α:Type}{c:α→AV}{l:List ((Int×Int)×α)}{k:Int×Int}{E:Env}{σ:Ad}
end
theorem WG{sel:List Nat}{es es':List ((Int×Int)×AV)}:OH sel (.mp es) (.mp es')=(es=es'):=rfl
attribute [go_sem] WG
variable {E:Env}
section
variable {P:Prop}{B:Base}{f:FuncId}{fn:Func}{c:Code}{args:List AV}{r0:AV}{l:Fr}
end
section
variable {α:Type}{c:α→AV}{l:List ((Int×Int)×α)}{σ:Ad}
theorem RY{t id:Nat}{k:AV}{ok:Bool}:Ea E σ t (.mref id) k ok=(match σ[id]? with
    |some (.mp es)=>Rd E t es k ok
    | ab=>match ok,k,Qp E t,ab with
      | false,.bool b,some .bool,some (.obj (.map es _))=>match J3 .bool true es,J3 .bool false es with
        |some s1,some s0=>some (.str (if b then s1 else s0))
        |_,_=>none
      |_,_,_,_=>none):=rfl
theorem Abm:M2 c []=[]:=rfl
end
attribute [go_sem] RY Abm
end Go.Rv
