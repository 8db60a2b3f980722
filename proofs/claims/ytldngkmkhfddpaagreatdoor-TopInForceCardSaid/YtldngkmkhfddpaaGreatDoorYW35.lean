/-
  Part 35.
-/
import Derived.Test.YtldngkmkhfddpaaGreatDoorYW34
import Derived.Laws.Externs
import Derived.Lib.AppendZerosOnto
import Derived.Lib.AtoiAllCases
import Derived.Lib.UnsafeStr
namespace Go.Rv
open Go.RowKit
set_option linter.unusedVariables false
set_option linter.unusedSimpArgs false
variable {E:Env}{w:World}{g:Gh}{O:Ac}
def At(w:World)(a:Addr)(vs:Array Value):Prop:=∀j,j<vs.size->w.cell? (a.add j)=some (vs.getD j undef)
theorem At.mono{w w':World}{a:Addr}{vs:Array Value}(h:At w a vs)(hw:∀j u,j<vs.size->w.cell? (a.add j)=some u->w'.cell? (a.add j)=some u):At w' a vs :=
 fun j hj=>hw j _ hj (h j hj)
open Go.RowKit
variable {E:Env}
def Apt(n:Nat):ABlk:=.buf 0 (List.replicate (n+1) []) false
attribute [go_sem] Apt
open Go.RowKit
variable{ops:Array Oper}{o:Oper}
variable {E:Env}
def bsId:AV->Option Nat
 |.bs _ id _ _ _=>some id
 |_=>none
def slB:AV->Nat->Bool
 |.bs _ id _ _ _,d=>id==d
 |.sl _ _,_=>true
 |_,_=>false
def LN:AV->Nat->Prop
 |.bs _ id tot off len,d=>id=d/\off=0/\len=tot
 |_,_=>False
def sliceP:Op->Option Nat
 |.slice _ (.tmp p) _ _ _=>some p
 |_=>none
def Ani:Op->Option Nat
 |.call c=>match c.callee,c.args.toList with
  |.builtin .append,[.tmp p,_]=>some p
  |_,_=>none
 |_=>none
def AoL(E:Env)(orc:Option Tmp->Orc)(ops:Array Oper)(y:Oper)(fr:List AV)(a:Nat):Prop :=
 ∀(O O':Ac) (v:AV),DP E orc ops y fr O=some (v,O')->O'=O/\∀σ2:Ac,σ2[a]?=O[a]?->DP E orc ops y fr σ2=some (v,σ2)
def Ajr(E:Env)(orc:Option Tmp->Orc)(ops:Array Oper)(y:Oper)(fr:List AV):Prop :=
 ∀(O O':Ac) (v:AV),DP E orc ops y fr O=some (v,O')->O'=O/\∀σ2:Ac,DP E orc ops y fr σ2=some (v,σ2)
theorem R5{orc:Option Tmp->Orc}{fr:List AV}(hf:F6 E ops o=false)(O:Ac):DP E orc ops o fr O=match Ig ops fr o with
 |some true=>CL E (orc o.dst) o.op fr O
 |some false=>some (.tup [],O)
 |none=>none:=by
 have e:F9 false O=some:=by funext r;simp[F9]
 unfold DP;rw[hf];split<;>simp_all [Bk]
theorem XP(h1:∀t n l,o.op≠.buildSlice t n l)(h2:∀s d x,o.op≠.convert s d x):F6 E ops o=false:=by
 cases hf:F6 E ops o
 ·rfl
 rcases Dz hf with⟨t,n,l,h⟩|⟨s,d,x,h,_⟩
 ·exact(h1 _ _ _ h).elim
 exact(h2 _ _ _ h).elim
theorem YP{f:Bool}{id T a:Nat}{t:TypeId}{x v:AV}{O σ1:Ac}(hne:a≠id)(h:Mm E O t (.bs f id T 0 T) x=some (v,σ1)):σ1[a]?=O[a]?:=by
 unfold Mm at h;split at h
 ·cases h
 split at h
 case h_2=>cases h
 split at h
 case h_2=>cases h
 split at h
 ·cases h
 split at h
 case isFalse=>cases h
 simp only at h;split at h
 case h_3=>cases h
 case h_2=>
  generalize JI _=z at h;cases z with
  |none=>cases h
  |some nl=>
   simp only at h;split at h
   ·cases h;exact ArC (fun e=>hne e.symm)
   cases h
 split at h
 case isFalse=>cases h
 rw[AqJ (by simp)]at h;cases h;exact ArC (fun e=>hne e.symm)
theorem Ad4{orc:Option Tmp->Orc}{fr:List AV}{O σ1:Ac}{v:AV}{q d a:Nat}(hp:Ani o.op=some q)(hw:LN (ev fr (.tmp q)) d)(hne:a≠d)(h:DP E orc ops o fr O=some (v,σ1)):σ1[a]?=O[a]?:=by
 unfold Ani at hp;split at hp
 case h_2=>cases hp
 rename_i c ho;split at hp
 case h_2=>cases hp
 rename_i p' y hc hargs;cases hp;have hf:F6 E ops o=false:=XP (fun _ _ _ h=>by rw[ho]at h;cases h) (fun _ _ _ h=>by rw[ho]at h;cases h)
 obtain⟨f,T,hx⟩:∃f T,ev fr (.tmp q)=.bs f d T 0 T:=by
  unfold LN at hw;split at hw
  ·rename_i e;obtain⟨rfl,rfl,rfl⟩:=hw;exact⟨_,_,e⟩
  cases hw
 rw[R5 hf]at h;cases hwn:Ig ops fr o with
 |none=>simp[hwn]at h
 | some b=>
  cases b with
  |false=>simp only[hwn]at h;cases h;rfl
  | true=>
   simp only[hwn,ho,CL,hc,EF,hargs,Arc,ArS,hx]at h;cases hts:c.argTypes.toList with
   |nil=>simp[Bg,hts]at h
   | cons t r=>
    cases r with
    |nil=>simp[Bg,hts]at h
    |cons u r=>
     simp only[Bg,hts]at h;split at h
     case h_2=>cases h
     split at h
     ·cases h
     exact YP hne h
inductive SepT(E:Env)(orc:Option Tmp->Orc)(ops:Array Oper)(x y:Oper)(st:St):Prop
  |free (h:Ajr E orc ops y st.fr)
  |look (a:Nat) (h:AoL E orc ops y st.fr a) (hx:∀σ1 v,DP E orc ops x st.fr st.O=some (v,σ1)->σ1[a]?=st.O[a]?)
def SlL(n:Nat)(fr:Fr):List (Nat×Nat)->Prop
 |[]=>True
 |p::ps=>slB (evL n fr (.tmp p.1)) p.2=true/\SlL n fr ps
def Pa(n:Nat)(fr:Fr):List (Nat×Nat)->Prop
 |[]=>True
 |p::ps=>LN (evL n fr (.tmp p.1)) p.2/\Pa n fr ps
theorem PG{n:Nat}{fr:Fr}:∀{ps:List (Nat×Nat)} {t a:Nat},Pa n fr ps->Vy ps t=some a->LN (evL n fr (.tmp t)) a
 |[],t,a,_,h=>by cases h
 | p::ps,t,a,hr,h=>by
  unfold Vy at h;rw[List.find?_cons]at h;by_cases e:(p.1==t)=true
  ·simp only[e]at h;cases h;rw[<-eq_of_beq e];exact hr.1
  simp only[e]at h;exact PG hr.2 h
variable {E:Env}{O:Ac}
theorem VO{t:TypeId}{v:Value}{k:AV}{ok:Bool}:Gx E O t (.val v) k ok=K2 E t (.val v) k ok:=rfl
theorem Vs:Nx []=some []:=rfl
attribute [go_sem] Vs Option.map_some
attribute [go_sem] VO
variable{t:TypeId}
variable {E:Env}{O:Ac}
theorem Aiz{b:Bool}:eqB .neq b=some (.bool !b):=rfl
theorem AiZ{b:Bool}:eqB .eql b=some (.bool b):=rfl
def erA(t:TypeId)(c:Int):AV:=if c=0 then .val .nilIface else .iface t (i64 c)
theorem AoX:erA t 0=.val .nilIface:=rfl
theorem AnW:erA t 1=.iface t (i64 1):=rfl
theorem AoI:erA t 2=.iface t (i64 2):=rfl
theorem AoD:erA t 3=.iface t (i64 3):=rfl
theorem Aon:erA t 4=.iface t (i64 4):=rfl
theorem OP{t kt et a b a2 b2:Nat}{z z2:List AV}{d:TypeDesc}(h:E.tab t=some ⟨.map kt et,a,b,z⟩)(h2:E.tab kt=some ⟨d,a2,b2,z2⟩):HZ E t=some d:=by
 simp only[HZ,h,h2]
theorem Afk{t a b:Nat}{z:List AV}{ms:Array (String×TypeId)}(h:E.tab t=some ⟨.interface ms,a,b,z⟩):Oy E t=true:=by
 simp only[Oy,h]
attribute [go_sem] Aiz AiZ AoX AnW AoI AoD Aon Pg Gx
open Go.RowKit
variable {E:Env}
def Ajj:AV->Bool
 |.rp _|.sl ..=>true
 |_=>false
def Aba:Op->Option Nat
 |.load _ (.tmp p)=>some p
 |.fieldAddr _ (.tmp p) _=>some p
 |.indexAddr _ (.tmp p) _=>some p
 |_=>none
theorem UW{orc:Option Tmp->Orc}{ops:Array Oper}{y:Oper}{fr:List AV}{p:Nat}(hp:Aba y.op=some p)(ha:Ajj (ev fr (.tmp p))=true):Ajr E orc ops y fr:=by
 intro O O' v h;have hf:F6 E ops y=false:=XP (fun _ _ _ h=>by rw[h]at hp;cases hp) (fun _ _ _ h=>by rw[h]at hp;cases hp);simp only[R5 hf]at h ⊢;cases hw:Ig ops fr y with
 |none=>simp[hw]at h
 | some b=>
  cases b with
  |false=>
   simp only[hw,AqG,AqQ]at h ⊢;exact⟨h.2.symm,fun σ2=>⟨h.1,trivial⟩⟩
  | true=>
   simp only[hw]at h ⊢;unfold Aba at hp;generalize hx:ev fr (.tmp p)=x at ha;split at hp
   case h_4=>cases hp
   case h_1 ho=>
    cases hp;simp only[ho,CL,EF,hx]at h ⊢;cases x<;>simp only[Ajj]at ha<;>try (cases ha;done)
    all_goals
     split at h
     case h_2=>cases h
     rename_i d hd;rw[AqE]at h;obtain⟨u,hu,h⟩:=h;cases h;refine⟨rfl,fun σ2=>?_⟩;simp only[loadA]at hu ⊢
     first|(rw[hu];rfl)|cases hu
   case h_2 ho=>
    cases hp;simp only[ho,CL,EF,hx]at h ⊢;rw[AqE]at h;obtain⟨u,hu,h⟩:=h;cases h;refine⟨rfl,fun σ2=>?_⟩
    have e:∀s f O,Bw E O s x f=Bw E [] s x f:=by
     intro s f O;cases x<;>simp only[Ajj]at ha<;>first|(cases ha;done)|rfl
    rw[e]at hu ⊢;rw[hu];rfl
   case h_3 ho=>
    cases hp;simp only[ho,CL,EF,hx]at h ⊢;rw[AqE]at h;obtain⟨u,hu,h⟩:=h;cases h;refine⟨rfl,fun σ2=>?_⟩
    have e:∀t i O,Ao E O t x i=Ao E [] t x i:=by
     intro t i O;unfold Ao;cases x<;>simp only[Ajj]at ha<;>try (cases ha;done)
     all_goals
      cases E.tab t with
      |none=>rfl
      |some d=>
       obtain⟨desc,sz,bt,z⟩:=d;cases desc<;>try rfl
       all_goals (rename_i e;dsimp only;cases E.tab e<;>first|rfl|(dsimp only;cases idx i _<;>rfl))
    rw[e]at hu ⊢;rw[hu];rfl
def AfG(ops:Array Oper)(T:List (List Nat))(ns ts:List Nat)(i:Nat)(y:Oper):Bool :=
 match Aba y.op with
 |some p=>ns.contains p&&FI ops ts (fun k=>(T.getD i []).contains k&&decide (k<i)) p
 |none=>false
def NsL(n:Nat)(fr:Fr):List Nat->Prop
 |[]=>True
 |p::ps=>Ajj (evL n fr (.tmp p))=true/\NsL n fr ps
theorem Rq{n:Nat}{fr:Fr}:∀{ps:List Nat} {t:Nat},NsL n fr ps->t∈ps->Ajj (evL n fr (.tmp t))=true
 |p::ps,t,hr,h=>by
  rcases Aq9.1 h with rfl|h
  ·exact hr.1
  exact Rq hr.2 h
open Go.RowKit
section
variable {E:Env}{w w':World}{g:Gh}{O:Ac}
end
section
variable {E:Env}
theorem AeQ{sel:List Nat}{T T':TypeId}{l l':List UInt8}:Uh sel (.tb T l) (.tb T' l')=(T=T'/\l=l'):=rfl
theorem Acu{sel:List Nat}{o o':Obj}:Uh sel (.obj o) (.obj o')=(o=o'):=rfl
attribute [go_sem] Acu
theorem Ve:JI []=some []:=rfl
attribute [go_sem] AeQ Ve O0
theorem AjM{O:Ac}{v:Value}:fz O (.val v)=some (.val v):=rfl
attribute [go_sem] AjM
attribute [go_sem] ite_self
section
variable {sel:List Nat}{N:Nat}
end
end
section
variable {P:Program}(w:World)
end
end Go.Rv
