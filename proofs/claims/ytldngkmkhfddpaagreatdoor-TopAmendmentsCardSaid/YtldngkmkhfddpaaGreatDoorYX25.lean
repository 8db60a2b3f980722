/-
  Part 25.
-/
import Derived.Test.YtldngkmkhfddpaaGreatDoorYX24
namespace Go.Rv
set_option linter.unusedVariables false
set_option linter.unusedSimpArgs false
variable{α:Type}{n:Nat}
variable {E:Env}{O:Ac}
theorem Us{α:Type}{c:α->AV}{k:IntKind}(f:α->Int)(hc:∀x,c x=.int k (f x)):∀l:List α,N4 k (C1 c l)=some (l.map f)
 |[]=>rfl
 |x::l=>by
  show N4 k (c x::C1 c l)=_;rw[hc x];unfold N4;simp[Us f hc l]
theorem Ya[DecidableEq α]{c:α->AV}{k:IntKind}(f:α->Int)(hf:∀x y,f x=f y->x=y)(hc:∀x,c x=.int k (f x)){op:BinOp}{t e b1 b2:Nat}{z1 z2:List AV} (ht:E.tab t=some ⟨.array n e,n,b1,z1⟩) (he:E.tab e=some ⟨.int k,1,b2,z2⟩) (a b:Arr α n) :B8 E op t (.agg (C1 c a.l)) (.agg (C1 c b.l))=match op with
  |.eql=>some (.bool (a==b))
  |.neq=>some (.bool (!(a==b)))
  |_=>none:=by
 show LX E op t _ _=_;unfold LX;simp only[ht,he,Us f hc];have hl:∀a:Arr α n,(C1 c a.l).length=n:=fun a=>by simp[C1,a.h]
 rw[Apb ⟨trivial,hl a,hl b⟩]
 have hab:(a.l.map f==b.l.map f)=(a==b):=by
  rw[Aq8,Aqg,Aqg];constructor
  ·intro h;refine Arr.ext' ?_;exact List.map_inj_right (fun x y=>hf x y) |>.1 h
  intro h;rw[h]
 rw[hab];cases op<;>rfl
theorem Ady{c:α->AV}{t e g b1 b2:Nat}{z1 z2:List AV}{d2:TypeDesc}(ht:E.tab t=some ⟨.array n e,n,b1,z1⟩)(he:E.tab e=some ⟨d2,1,b2,z2⟩){a:Arr α n}(hG:E.G g=some (C1 c a.l))(x:AV) :Ao E O t (.glob g) x=match idx x n with
  |some i=>some (.rp ((C1 c a.l).drop i))
  |none=>none:=by
 unfold Ao;simp only[ht,he,hG];cases idx x n with
 |none=>rfl
 |some i=>simp only[Aro]
theorem AgA[Inhabited α]{c:α->AV}{a:Arr α n}{i:Nat}(h:i<n):((C1 c a.l).drop i)[0]?=some (c (a.get i)):=by
 rw[ApJ,AqD];exact Xg h
def Qc(a b:Int):Int:=if b<a then b else a
def Qk(a b:Int):Int:=if a<b then b else a
theorem Alv{t:TypeId}{ts:List TypeId}(a b:Int):AU E O .min (t::ts) [i64 a,i64 b]=some (i64 (Qc a b),O):=rfl
theorem AkO{t:TypeId}{ts:List TypeId}(a b:Int):AU E O .max (t::ts) [i64 a,i64 b]=some (i64 (Qk a b),O):=rfl
def Qo{α:Type}(c:α->AV)(n:Nat)(a:Arr α n):List AV:=C1 c a.l
theorem YM{c:α->AV}{a:Arr α n}{xs:List AV}(h:xs.length=n):splice (C1 c a.l) 0 xs=xs:=by
 refine Aqa fun k=>?_
 rw[KK _ _ _ (by rw[DK];omega)];by_cases hk:k<n
 ·rw[Apb ⟨Apz _,by omega⟩];rfl
 rw[Apd (by omega),Aql (by rw[DK];omega),Aql (by omega)]
attribute [go_sem] Option.isSome_none
attribute [go_sem] AgA Alv AkO Qo
attribute [go_sem ↓] YM
def AgD(P:Program)(B:∀H:Type,DataW H->Nat)(fuel:Nat)(t:TypeId){α:Type}(c:α->List AV)(sz:α->Nat)(ok:α->Prop):Prop :=
 ∀(H:Type) (enc:TypeId×Value->H) (W:World) (pr:Addr->Prop),(∀a,pr a)->∀(cs:List Value) (d:DataW H) (ps:List MemPlace),
  DataW.trod enc P W 0 (fun _=>true) true fuel t cs=some (d,ps) ->
  ∃x:α,cs.length=(c x).length/\sz x<=B H d/\ok x/\∀(j:Nat) (y:AV),(c x)[j]?=some y->Rep W pr [] (cs.getD j undef) y/\one (cs.getD j undef)=true
section
variable {P:Program}{B:∀H:Type,DataW H->Nat}
theorem Opens.at{t:TypeId}{α:Type}{c:α->List AV}{sz:α->Nat}{ok:α->Prop}(h:Opens P B t c sz ok)(fuel:Nat):AgD P B fuel t c sz ok :=
 fun H enc W pr hpr cs d ps ht=>h H enc W pr hpr fuel cs d ps ht
end
end Go.Rv
