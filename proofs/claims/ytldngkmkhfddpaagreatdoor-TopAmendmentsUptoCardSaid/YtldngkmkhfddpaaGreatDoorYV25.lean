/-
  Part 25.
-/
import Derived.Test.YtldngkmkhfddpaaGreatDoorYV24
import Derived.LaidMore
import Derived.Lay
import Derived.Deep.DeepHandedRow
namespace Go.Rv
set_option linter.unusedVariables false
set_option linter.unusedSimpArgs false
variable{α:Type}{n:Nat}
variable {E:Env}{O:Ad}
theorem T6{α:Type}{c:α->AV}{k:IntKind}(f:α->Int)(hc:∀x,c x=.int k (f x)):∀l:List α,Nv k (C1 c l)=some (l.map f)
 |[]=>rfl
 |x::l=>by
  show Nv k (c x::C1 c l)=_;rw[hc x];unfold Nv;simp[T6 f hc l]
theorem YP[DecidableEq α]{c:α->AV}{k:IntKind}(f:α->Int)(hf:∀x y,f x=f y->x=y)(hc:∀x,c x=.int k (f x)){op:BinOp}{t e b1 b2:Nat}{z1 z2:List AV} (ht:E.tab t=some ⟨.array n e,n,b1,z1⟩) (he:E.tab e=some ⟨.int k,1,b2,z2⟩) (a b:Arr α n) :BD E op t (.agg (C1 c a.l)) (.agg (C1 c b.l))=match op with
  |.eql=>some (.bool (a==b))
  |.neq=>some (.bool (!(a==b)))
  |_=>none:=by
 show LX E op t _ _=_;unfold LX;simp only[ht,he,T6 f hc];have hl:∀a:Arr α n,(C1 c a.l).length=n:=fun a=>by simp[C1,a.h]
 rw[Ao4 ⟨trivial,hl a,hl b⟩]
 have hab:(a.l.map f==b.l.map f)=(a==b):=by
  rw[Aq1,Ap9,Ap9];constructor
  ·intro h;refine Arr.ext' ?_;exact List.map_inj_right (fun x y=>hf x y) |>.1 h
  intro h;rw[h]
 rw[hab];cases op<;>rfl
theorem AdC{c:α->AV}{t e g b1 b2:Nat}{z1 z2:List AV}{d2:TypeDesc}(ht:E.tab t=some ⟨.array n e,n,b1,z1⟩)(he:E.tab e=some ⟨d2,1,b2,z2⟩){a:Arr α n}(hG:E.G g=some (C1 c a.l))(x:AV) :Ao E O t (.glob g) x=match idx x n with
  |some i=>some (.rp ((C1 c a.l).drop i))
  |none=>none:=by
 unfold Ao;simp only[ht,he,hG];cases idx x n with
 |none=>rfl
 |some i=>simp only[Arg]
theorem AgH[Inhabited α]{c:α->AV}{a:Arr α n}{i:Nat}(h:i<n):((C1 c a.l).drop i)[0]?=some (c (a.get i)):=by
 rw[ApC,Aqw];exact Xn h
def Qm(a b:Int):Int:=if b<a then b else a
def Qe(a b:Int):Int:=if a<b then b else a
theorem Ake{t:TypeId}{ts:List TypeId}(a b:Int):Ba E O .min (t::ts) [i64 a,i64 b]=some (i64 (Qm a b),O):=rfl
theorem Aij{t:TypeId}{ts:List TypeId}(a b:Int):Ba E O .max (t::ts) [i64 a,i64 b]=some (i64 (Qe a b),O):=rfl
def Ql{α:Type}(c:α->AV)(n:Nat)(a:Arr α n):List AV:=C1 c a.l
theorem Yk{c:α->AV}{a:Arr α n}{xs:List AV}(h:xs.length=n):splice (C1 c a.l) 0 xs=xs:=by
 refine Ap2 fun k=>?_
 rw[KC _ _ _ (by rw[DP];omega)];by_cases hk:k<n
 ·rw[Ao4 ⟨Apx _,by omega⟩];rfl
 rw[Ao6 (by omega),Aqe (by rw[DP];omega),Aqe (by omega)]
attribute [go_sem] Option.isSome_none
attribute [go_sem] AgH Ake Aij Ql
attribute [go_sem ↓] Yk
def AfS(P:Program)(B:∀H:Type,DataW H->Nat)(fuel:Nat)(t:TypeId){α:Type}(c:α->List AV)(sz:α->Nat)(ok:α->Prop):Prop :=
 ∀(H:Type) (enc:TypeId×Value->H) (W:World) (pr:Addr->Prop),(∀a,pr a)->∀(cs:List Value) (d:DataW H) (ps:List MemPlace),
  DataW.trod enc P W 0 (fun _=>true) true fuel t cs=some (d,ps) ->
  ∃x:α,cs.length=(c x).length/\sz x<=B H d/\ok x/\∀(j:Nat) (y:AV),(c x)[j]?=some y->Rep W pr [] (cs.getD j undef) y/\one (cs.getD j undef)=true
section
variable {P:Program}{B:∀H:Type,DataW H->Nat}
theorem Opens.at{t:TypeId}{α:Type}{c:α->List AV}{sz:α->Nat}{ok:α->Prop}(h:Opens P B t c sz ok)(fuel:Nat):AfS P B fuel t c sz ok :=
 fun H enc W pr hpr cs d ps ht=>h H enc W pr hpr fuel cs d ps ht
end
theorem LN{H:Type}{enc:TypeId×Value->H}{C:Checked}{os:Os}{f:FuncId}{fn:Func}{s:OpenSpec}{conds:List PathCond}{apart:Bool}{laid:List (String×DataW Unit)}(modest:Bool)(w0:World)(args:Array Value)(hos:w0.os=os) (hsh:(w0.forCall (fun _ _=>0) ⟨#[],args,[]⟩).Shaped C.prog) (hok:Input.okWideB C.prog (w0.forCall (fun _ _=>0) ⟨#[],args,[]⟩) f ⟨#[],args,[]⟩=true) (hrow:s.preRow enc C.prog fn conds apart laid (w0.forCall (fun _ _=>0) ⟨#[],args,[]⟩).memory args) :∃(w:World) (tape:Tape) (i:Input),w.os=os/\(w.forCall tape i).Shaped C.prog/\i.vars=[]/\Input.okWide C.prog (w.forCall tape i) .any w.heap.size f i /\s.preRow enc C.prog fn conds apart laid (w.forCall tape i).memory i.args/\({ modest:=modest }:Assume).holds C.prog (lone (Frame.enter C.prog f i.args .normal) [] (w.forCall tape i)) :=
 ⟨w0,fun _ _=>0,⟨#[],args,[]⟩,hos,hsh,(Input.okWide_of_okWideB (base:=0) hok).1,(Input.okWide_of_okWideB hok).2,hrow,by
  simp only[Assume.holds];exact⟨by simp,by simp,fun _=>Modest.zero,by simp,by simp⟩⟩
end Go.Rv
