/-
  Part 34.
-/
import Derived.Test.YtioapcamanmoiaaGreatDoorYA33
import Derived.Lib.AtoiAllCases
import Derived.Lib.UnsafeStr
namespace Go.Rv
variable {E:Env}{σ:Ad}
theorem Wi{t:TypeId}{v:Value}{k:AV}{ok:Bool}:FU E σ t (.val v) k ok=Ud E t (.val v) k ok:=rfl
theorem V7:bytesOf []=some []:=rfl
attribute [go_sem] V7 Option.map_some
attribute [go_sem] Wi
variable{t:TypeId}
variable {E:Env}{σ:Ad}
theorem AhO{b:Bool}:eqB .neq b=some (.bool !b):=rfl
theorem AjS{b:Bool}:eqB .eql b=some (.bool b):=rfl
def erA(t:TypeId)(c:Int):AV:=if c=0 then .val .nilIface else .iface t (i64 c)
theorem Apq:erA t 0=.val .nilIface:=rfl
theorem AqU:erA t 1=.iface t (i64 1):=rfl
theorem Ap0:erA t 2=.iface t (i64 2):=rfl
theorem AqH:erA t 3=.iface t (i64 3):=rfl
theorem Ar8:erA t 4=.iface t (i64 4):=rfl
attribute [go_sem] AhO AjS Apq AqU Ap0 AqH Ar8 TW FU
open Go.RowKit
variable {E:Env}
def AkC:AV→Bool
 |.rp _|.sl ..=>true
 |_=>false
def Ah3:Op→Option Nat
 |.load _ (.tmp p)=>some p
 |.fieldAddr _ (.tmp p) _=>some p
 |.indexAddr _ (.tmp p) _=>some p
 |_=>none
theorem Anu{orc:Option Tmp→Orc}{ops:Array Oper}{y:Oper}{fr:List AV}{p:Nat}(hp:Ah3 y.op=some p)(ha:AkC (ev fr (.tmp p))=true):ArW E orc ops y fr:=by
  intro σ σ' v h;have hf:FX E ops y=false:=YW (fun _ _ _ h=>by rw[h]at hp;cases hp) (fun _ _ _ h=>by rw[h]at hp;cases hp);simp only[S2 hf]at h ⊢;cases hw:Ke ops fr y with
  |none=>simp[hw]at h
  | some b=>
    cases b with
    | false=>
      simp only[hw,AsW,As4]at h ⊢;exact⟨h.2.symm,fun σ2=>⟨h.1,trivial⟩⟩
    | true=>
      simp only[hw]at h ⊢;unfold Ah3 at hp;generalize hx:ev fr (.tmp p)=x at ha;split at hp
      case h_4=>cases hp
      case h_1 ho=>
        cases hp;simp only[ho,Dg,Ff,hx]at h ⊢;cases x<;>simp only[AkC]at ha<;>try (cases ha;done)
        all_goals
          split at h
          case h_2=>cases h
          rename_i d hd;rw[AsV]at h;obtain⟨u,hu,h⟩:=h;cases h;refine⟨rfl,fun σ2=>?_⟩;simp only[loadA]at hu ⊢
          first|(rw[hu];rfl)|cases hu
      case h_2 ho=>
        cases hp;simp only[ho,Dg,Ff,hx]at h ⊢;rw[AsV]at h;obtain⟨u,hu,h⟩:=h;cases h;refine⟨rfl,fun σ2=>?_⟩
        have e:∀s f σ,BB E σ s x f=BB E [] s x f:=by
          intro s f σ;cases x<;>simp only[AkC]at ha<;>first|(cases ha;done)|rfl
        rw[e]at hu ⊢;rw[hu];rfl
      case h_3 ho=>
        cases hp;simp only[ho,Dg,Ff,hx]at h ⊢;rw[AsV]at h;obtain⟨u,hu,h⟩:=h;cases h;refine⟨rfl,fun σ2=>?_⟩
        have e:∀t i σ,Az E σ t x i=Az E [] t x i:=by
          intro t i σ;unfold Az;cases x<;>simp only[AkC]at ha<;>try (cases ha;done)
          all_goals
            cases E.tab t with
            |none=>rfl
            | some d=>
              obtain⟨desc,sz,bt,z⟩:=d;cases desc<;>try rfl
              all_goals (rename_i e;dsimp only;cases E.tab e<;>first|rfl|(dsimp only;cases idx i _<;>rfl))
        rw[e]at hu ⊢;rw[hu];rfl
def AnX(ops:Array Oper)(T:List (List Nat))(ns ts:List Nat)(i:Nat)(y:Oper):Bool :=
 match Ah3 y.op with
 |some p=>ns.contains p&&G1 ops ts (fun k=>(T.getD i []).contains k&&decide (k<i)) p
 |none=>false
def NsL(n:Nat)(fr:Fr):List Nat→Prop
 |[]=>True
 |p::ps=>AkC (evL n fr (.tmp p))=true∧NsL n fr ps
theorem Ag6{n:Nat}{fr:Fr}:∀{ps:List Nat} {t:Nat},NsL n fr ps→t∈ps→AkC (evL n fr (.tmp t))=true
  | p::ps,t,hr,h=>by
    rcases Atu.1 h with rfl|h
    · exact hr.1
    · exact Ag6 hr.2 h
open Go.RowKit
theorem Vb{B:Base}{f:FuncId}{fn:Func}{c:Code}{args:List AV}{σ:Ad}{r0:AV}{rs:List ResultVar}{N:Nat}(n:Nat)(hn0:σ.length=n)(hB:B.Ok)(hf:B.P.funcs[f]?=some fn)(hb:fn.body=some c)(hn:(fn.name == "runtime.NumGoroutine")=false) (hN:fn.ntmps=N) (hrs:fn.results.toList=rs) (hlen:args.length≤N) (hr:r0.under n=true) (h:∀F:Addr→Prop,Run (B.env F) n c ⟨Ao N (QW 0 args),σ⟩ (fun ex st=>(ex=.normal∨ex=.ret)∧∃xs bs,FH (B.env F) st.σ st.fr rs=some xs∧Jf xs=r0∧st.σ=σ++bs)):∀F:Addr→Prop,VR (B.env F) f args σ r0 σ:=by
 subst hn0
 have h0:Con B f args σ (fun r σ'=>r=r0∧∃bs,σ'=σ++bs):=by
  refine Ac3 hB hf hb hn (fun F=>?_);subst hN hrs;rw[Iq fn.ntmps args hlen (QW 0 args) (fun t _=>I2 args 0 t (Atp _))];refine EZ (h F) ?_;rintro ex st ⟨h1,xs,bs,h2,h3,h4⟩;exact⟨h1,xs,h2,h3,bs,h4⟩
 intro F w g vs hm ha;refine(h0.call F w g vs hm ha).mono ?_;rintro e w' ⟨v,r,σ',g',rfl,⟨rfl,bs,rfl⟩,h3,h4,h5⟩;have hlg:g.length=σ.length:=hm.len;have ht:(σ++bs).take σ.length=σ:=by simp
 have m1:=SD h3 σ.length (by rw[ht];exact PJ hm);rw[ht]at m1;refine⟨v,g'.take σ.length,rfl,m1,?_,?_,?_⟩
 ·intro id b hb;have hid:id<σ.length:=by rw[←hlg];exact(AsT.1 hb).1
  obtain⟨b',hb',hs⟩:=h4.ids id hid b hb;exact⟨b',GS hb' hid,hs⟩
 ·exact⟨h4.os,h4.tape,h4.output,h4.size,fun a u hc hp=>⟨(h4.cells a u hc hp).1,IA (h4.cells a u hc hp).2⟩,fun β hβ hn=>⟨(h4.blocks β hβ hn).1,fun h=>(h4.blocks β hβ hn).2 (JA h)⟩,fun id hid=>absurd hid (Atw _)⟩
 ·exact(SB h5 hr).mono (fun a u hc hp=>⟨hc,IA hp⟩) (GLe.refl _)
section
variable {E:Env}{w w':World}{g:Gh}{σ:Ad}
end
section
variable {E:Env}
theorem AeG{sel:List Nat}{T T':TypeId}{l l':List UInt8}:UV sel (.tb T l) (.tb T' l')=(T=T'∧l=l'):=rfl
theorem AcR{sel:List Nat}{o o':Obj}:UV sel (.obj o) (.obj o')=(o=o'):=rfl
attribute [go_sem] AcR
theorem VB:IJ []=some []:=rfl
attribute [go_sem] AeG VB RH
theorem AnS{σ:Ad}{v:Value}:fz σ (.val v)=some (.val v):=rfl
attribute [go_sem] AnS
attribute [go_sem] ite_self
theorem Aas{α:Type}{c:α→List AV}{l:List α}{x:List AV}:List.take (l.length+1) (L c l++[x])=L c l++[x]:=Aut (by simp[L])
attribute [go_sem] Aas
section
variable {sel:List Nat}{N:Nat}
end
end
section
variable {P:Program}(w:World)
end
end Go.Rv
