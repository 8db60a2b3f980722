/-
  Part 35.
-/
import Derived.Test.YtldngkmkhfddpaaGreatDoorYV34
import Derived.Lib.AtoiAllCases
import Derived.Lib.UnsafeStr
namespace Go.Rv
set_option linter.unusedVariables false
set_option linter.unusedSimpArgs false
variable {E:Env}{O:Ad}
theorem V9{t:TypeId}{v:Value}{k:AV}{ok:Bool}:Gs E O t (.val v) k ok=Ko E t (.val v) k ok:=rfl
theorem SS:Nm []=some []:=rfl
attribute [go_sem] SS Option.map_some
attribute [go_sem] V9
variable{t:TypeId}
variable {E:Env}{O:Ad}
theorem AfV{b:Bool}:eqB .neq b=some (.bool !b):=rfl
theorem Agy{b:Bool}:eqB .eql b=some (.bool b):=rfl
def erA(t:TypeId)(c:Int):AV:=if c=0 then .val .nilIface else .iface t (i64 c)
theorem Am3:erA t 0=.val .nilIface:=rfl
theorem AnT:erA t 1=.iface t (i64 1):=rfl
theorem Aor:erA t 2=.iface t (i64 2):=rfl
theorem Anf:erA t 3=.iface t (i64 3):=rfl
theorem Aov:erA t 4=.iface t (i64 4):=rfl
theorem Ot{t kt et a b a2 b2:Nat}{z z2:List AV}{d:TypeDesc}(h:E.tab t=some ⟨.map kt et,a,b,z⟩)(h2:E.tab kt=some ⟨d,a2,b2,z2⟩):HB E t=some d:=by
 simp only[HB,h,h2]
attribute [go_sem] AfV Agy Am3 AnT Aor Anf Aov P2 Gs
open Go.RowKit
variable {E:Env}
def AhZ:AV->Bool
 |.rp _|.sl ..=>true
 |_=>false
def Acb:Op->Option Nat
 |.load _ (.tmp p)=>some p
 |.fieldAddr _ (.tmp p) _=>some p
 |.indexAddr _ (.tmp p) _=>some p
 |_=>none
theorem T9{orc:Option Tmp->Orc}{ops:Array Oper}{y:Oper}{fr:List AV}{p:Nat}(hp:Acb y.op=some p)(ha:AhZ (ev fr (.tmp p))=true):Afb E orc ops y fr:=by
 intro O O' v h;have hf:ES E ops y=false:=Mo (fun _ _ _ h=>by rw[h]at hp;cases hp) (fun _ _ _ h=>by rw[h]at hp;cases hp);simp only[H4 hf]at h ⊢;cases hw:G9 ops fr y with
 |none=>simp[hw]at h
 | some b=>
  cases b with
  |false=>
   simp only[hw,Ao0,Apa]at h ⊢;exact⟨h.2.symm,fun σ2=>⟨h.1,trivial⟩⟩
  | true=>
   simp only[hw]at h ⊢;unfold Acb at hp;generalize hx:ev fr (.tmp p)=x at ha;split at hp
   case h_4=>cases hp
   case h_1 ho=>
    cases hp;simp only[ho,Cl,Ec,hx]at h ⊢;cases x<;>simp only[AhZ]at ha<;>try (cases ha;done)
    all_goals
     split at h
     case h_2=>cases h
     rename_i d hd;rw[AoY]at h;obtain⟨u,hu,h⟩:=h;cases h;refine⟨rfl,fun σ2=>?_⟩;simp only[loadA]at hu ⊢
     first|(rw[hu];rfl)|cases hu
   case h_2 ho=>
    cases hp;simp only[ho,Cl,Ec,hx]at h ⊢;rw[AoY]at h;obtain⟨u,hu,h⟩:=h;cases h;refine⟨rfl,fun σ2=>?_⟩
    have e:∀s f O,AX E O s x f=AX E [] s x f:=by
     intro s f O;cases x<;>simp only[AhZ]at ha<;>first|(cases ha;done)|rfl
    rw[e]at hu ⊢;rw[hu];rfl
   case h_3 ho=>
    cases hp;simp only[ho,Cl,Ec,hx]at h ⊢;rw[AoY]at h;obtain⟨u,hu,h⟩:=h;cases h;refine⟨rfl,fun σ2=>?_⟩
    have e:∀t i O,Ao E O t x i=Ao E [] t x i:=by
     intro t i O;unfold Ao;cases x<;>simp only[AhZ]at ha<;>try (cases ha;done)
     all_goals
      cases E.tab t with
      |none=>rfl
      |some d=>
       obtain⟨desc,sz,bt,z⟩:=d;cases desc<;>try rfl
       all_goals (rename_i e;dsimp only;cases E.tab e<;>first|rfl|(dsimp only;cases idx i _<;>rfl))
    rw[e]at hu ⊢;rw[hu];rfl
def AeP(ops:Array Oper)(T:List (List Nat))(ns ts:List Nat)(i:Nat)(y:Oper):Bool :=
 match Acb y.op with
 |some p=>ns.contains p&&DF ops ts (fun k=>(T.getD i []).contains k&&decide (k<i)) p
 |none=>false
def NsL(n:Nat)(fr:Fr):List Nat->Prop
 |[]=>True
 |p::ps=>AhZ (evL n fr (.tmp p))=true/\NsL n fr ps
theorem QS{n:Nat}{fr:Fr}:∀{ps:List Nat} {t:Nat},NsL n fr ps->t∈ps->AhZ (evL n fr (.tmp t))=true
 |p::ps,t,hr,h=>by
  rcases Apq.1 h with rfl|h
  ·exact hr.1
  exact QS hr.2 h
open Go.RowKit
section
variable {E:Env}{w w':World}{g:Gh}{O:Ad}
end
section
variable {E:Env}
theorem AcO{sel:List Nat}{T T':TypeId}{l l':List UInt8}:Ts sel (.tb T l) (.tb T' l')=(T=T'/\l=l'):=rfl
theorem AaW{sel:List Nat}{o o':Obj}:Ts sel (.obj o) (.obj o')=(o=o'):=rfl
attribute [go_sem] AaW
theorem T8:Ju []=some []:=rfl
attribute [go_sem] AcO T8 NH
theorem AjE{O:Ad}{v:Value}:fz O (.val v)=some (.val v):=rfl
attribute [go_sem] AjE
attribute [go_sem] ite_self
section
variable {sel:List Nat}{N:Nat}
end
end
section
variable {P:Program}(w:World)
end
end Go.Rv
