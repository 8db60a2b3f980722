/-
  Part 35.
-/
import Derived.Test.YtldngkmkhfddpaaGreatDoorYX34
import Derived.Lib.AtoiAllCases
import Derived.Lib.UnsafeStr
namespace Go.Rv
set_option linter.unusedVariables false
set_option linter.unusedSimpArgs false
variable {E:Env}{O:Ac}
theorem Wr{t:TypeId}{v:Value}{k:AV}{ok:Bool}:Ga E O t (.val v) k ok=Ka E t (.val v) k ok:=rfl
theorem TL:bytesOf []=some []:=rfl
attribute [go_sem] TL Option.map_some
attribute [go_sem] Wr
variable{t:TypeId}
variable {E:Env}{O:Ac}
theorem AfR{b:Bool}:eqB .neq b=some (.bool !b):=rfl
theorem Agg{b:Bool}:eqB .eql b=some (.bool b):=rfl
def erA(t:TypeId)(c:Int):AV:=if c=0 then .val .nilIface else .iface t (i64 c)
theorem AmC:erA t 0=.val .nilIface:=rfl
theorem Aoa:erA t 1=.iface t (i64 1):=rfl
theorem Anc:erA t 2=.iface t (i64 2):=rfl
theorem AmQ:erA t 3=.iface t (i64 3):=rfl
theorem An2:erA t 4=.iface t (i64 4):=rfl
theorem Ou{t kt et a b a2 b2:Nat}{z z2:List AV}{d:TypeDesc}(h:E.tab t=some ⟨.map kt et,a,b,z⟩)(h2:E.tab kt=some ⟨d,a2,b2,z2⟩):H7 E t=some d:=by
 simp only[H7,h,h2]
attribute [go_sem] AfR Agg AmC Aoa Anc AmQ An2 Ov Ga
open Go.RowKit
variable {E:Env}
def Ah1:AV->Bool
 |.rp _|.sl ..=>true
 |_=>false
def Aay:Op->Option Nat
 |.load _ (.tmp p)=>some p
 |.fieldAddr _ (.tmp p) _=>some p
 |.indexAddr _ (.tmp p) _=>some p
 |_=>none
theorem Uv{orc:Option Tmp->Orc}{ops:Array Oper}{y:Oper}{fr:List AV}{p:Nat}(hp:Aay y.op=some p)(ha:Ah1 (ev fr (.tmp p))=true):Afv E orc ops y fr:=by
 intro O O' v h;have hf:ED E ops y=false:=Mz (fun _ _ _ h=>by rw[h]at hp;cases hp) (fun _ _ _ h=>by rw[h]at hp;cases hp);simp only[H1 hf]at h ⊢;cases hw:G8 ops fr y with
 |none=>simp[hw]at h
 | some b=>
  cases b with
  |false=>
   simp only[hw,Ao7,Apf]at h ⊢;exact⟨h.2.symm,fun σ2=>⟨h.1,trivial⟩⟩
  | true=>
   simp only[hw]at h ⊢;unfold Aay at hp;generalize hx:ev fr (.tmp p)=x at ha;split at hp
   case h_4=>cases hp
   case h_1 ho=>
    cases hp;simp only[ho,Ca,DX,hx]at h ⊢;cases x<;>simp only[Ah1]at ha<;>try (cases ha;done)
    all_goals
     split at h
     case h_2=>cases h
     rename_i d hd;rw[Ao5]at h;obtain⟨u,hu,h⟩:=h;cases h;refine⟨rfl,fun σ2=>?_⟩;simp only[loadA]at hu ⊢
     first|(rw[hu];rfl)|cases hu
   case h_2 ho=>
    cases hp;simp only[ho,Ca,DX,hx]at h ⊢;rw[Ao5]at h;obtain⟨u,hu,h⟩:=h;cases h;refine⟨rfl,fun σ2=>?_⟩
    have e:∀s f O,AP E O s x f=AP E [] s x f:=by
     intro s f O;cases x<;>simp only[Ah1]at ha<;>first|(cases ha;done)|rfl
    rw[e]at hu ⊢;rw[hu];rfl
   case h_3 ho=>
    cases hp;simp only[ho,Ca,DX,hx]at h ⊢;rw[Ao5]at h;obtain⟨u,hu,h⟩:=h;cases h;refine⟨rfl,fun σ2=>?_⟩
    have e:∀t i O,Ao E O t x i=Ao E [] t x i:=by
     intro t i O;unfold Ao;cases x<;>simp only[Ah1]at ha<;>try (cases ha;done)
     all_goals
      cases E.tab t with
      |none=>rfl
      |some d=>
       obtain⟨desc,sz,bt,z⟩:=d;cases desc<;>try rfl
       all_goals (rename_i e;dsimp only;cases E.tab e<;>first|rfl|(dsimp only;cases idx i _<;>rfl))
    rw[e]at hu ⊢;rw[hu];rfl
def AdS(ops:Array Oper)(T:List (List Nat))(ns ts:List Nat)(i:Nat)(y:Oper):Bool :=
 match Aay y.op with
 |some p=>ns.contains p&&D6 ops ts (fun k=>(T.getD i []).contains k&&decide (k<i)) p
 |none=>false
def NsL(n:Nat)(fr:Fr):List Nat->Prop
 |[]=>True
 |p::ps=>Ah1 (evL n fr (.tmp p))=true/\NsL n fr ps
theorem QP{n:Nat}{fr:Fr}:∀{ps:List Nat} {t:Nat},NsL n fr ps->t∈ps->Ah1 (evL n fr (.tmp t))=true
 |p::ps,t,hr,h=>by
  rcases Apx.1 h with rfl|h
  ·exact hr.1
  exact QP hr.2 h
open Go.RowKit
section
variable {E:Env}{w w':World}{g:Gh}{O:Ac}
end
section
variable {E:Env}
theorem AdQ{sel:List Nat}{T T':TypeId}{l l':List UInt8}:Ue sel (.tb T l) (.tb T' l')=(T=T'/\l=l'):=rfl
theorem Aa2{sel:List Nat}{o o':Obj}:Ue sel (.obj o) (.obj o')=(o=o'):=rfl
attribute [go_sem] Aa2
theorem TA:J7 []=some []:=rfl
attribute [go_sem] AdQ TA NI
theorem AkV{O:Ac}{v:Value}:fz O (.val v)=some (.val v):=rfl
attribute [go_sem] AkV
attribute [go_sem] ite_self
section
variable {sel:List Nat}{N:Nat}
end
end
section
variable {P:Program}(w:World)
end
end Go.Rv
