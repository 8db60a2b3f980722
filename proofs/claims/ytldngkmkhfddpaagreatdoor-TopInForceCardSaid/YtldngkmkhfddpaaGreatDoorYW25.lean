/-
  Part 25.
-/
import Derived.Test.YtldngkmkhfddpaaGreatDoorYW24
namespace Go.Rv
set_option linter.unusedVariables false
set_option linter.unusedSimpArgs false
theorem AcL{P:Program}{B:∀H:Type,DataW H->Nat}{t e:TypeId}{n:Nat}(hB:BulkOk B)(ht:P.underlying t=some (.array n e))(hn:P.cellsOf t=n)(h1:P.cellsOf e=1){α:Type}{c:α->AV}{sz:α->Nat}{ok:α->Prop} (he:Opens P B e (fun x=>[c x]) sz ok):Opens P B t (fun a:Arr α n=>C1 c a.l) (fun a=>(a.l.map sz).sum) (fun a=>∀x∈a.l,ok x):=by
 intro H enc W pr hpr fuel cs d ps h;cases fuel with
 |zero=>cases h
 | succ fuel=>
  unfold DataW.trod at h;rw[ht]at h;split at h<;>try (rename_i hh;cases hh;done)
  all_goals try (rename_i hh _;cases hh;done)
  all_goals try (cases h;done)
  all_goals try (exfalso;rename ∀(n':Nat) (e':TypeId),some (TypeDesc.array n e)=some (TypeDesc.array n' e')->False=>hh;exact hh _ _ rfl)
  rename_i cs _ _ n' e' hk;cases hk;split at h
  case isFalse=>cases h
  rename_i hl;rw[hn]at hl;rw[AqE]at h;obtain⟨xs,hxs,h⟩:=h;simp only[AqQ]at h;obtain⟨rfl,_⟩:=h;obtain⟨hlen,hget⟩:=Q2 hxs;rw[AsK]at hlen
  have hex:∀i,i<n->∃x:α,sz x<=B H ((xs.map (·.1)).getD i .nil)/\ok x/\Rep W pr [] (cs.getD i undef) (c x)/\one (cs.getD i undef)=true:=by
   intro i hi;obtain⟨i',hi',hf⟩:=hget i (xs[i]'(by omega)) (AqH _);rw[Asl hi]at hi';cases hi';rw[h1,AsQ]at hf;obtain⟨x,r1,r2,r3,r4⟩:=he H enc W pr hpr fuel _ _ _ hf;have:=r4 0 (c x) rfl
   have ed:((cs.drop i).take 1).getD 0 undef=cs.getD i undef:=by
    simp[AqY,Arj,Are]
   rw[ed]at this;refine⟨x,?_,r3,this.1,this.2⟩
   have eg:(xs.map (·.1)).getD i .nil=(xs[i]'(by omega)).1:=by
    simp[AqY,Aq8,AqH (show i<xs.length by omega)]
   rw[eg];exact r2
  obtain⟨l,hll,hl2⟩:=LO _ n hex;refine⟨⟨l,hll⟩,by simp[C1,hll,hl],?_,fun x hx=>?_,fun j y hj=>?_⟩
  ·refine ArZ ?_ (hB.agg H (xs.map (·.1)));refine Rj (by simp;omega) ?_;intro i x y hx hy;simp only[Aq8,AqE]at hx hy;obtain⟨u,hu,rfl⟩:=hx;obtain⟨v,hv,rfl⟩:=hy;obtain⟨h3,_⟩:=hl2 i u hu
   have:(xs.map (·.1)).getD i .nil=v:=by
    obtain⟨v',hv',rfl⟩:=hv;simp[AqY,Aq8,hv']
   rw[this]at h3;exact h3
  ·obtain⟨i,hi,rfl⟩:=ArA hx;exact(hl2 i l[i] (AqH hi)).2.1
  simp only[C1,Aq8,AqE]at hj;obtain⟨x,hx,rfl⟩:=hj;exact(hl2 j x hx).2.2
variable{α:Type}{n:Nat}
variable {E:Env}{O:Ac}
theorem TR{α:Type}{c:α->AV}{k:IntKind}(f:α->Int)(hc:∀x,c x=.int k (f x)):∀l:List α,NO k (C1 c l)=some (l.map f)
 |[]=>rfl
 |x::l=>by
  show NO k (c x::C1 c l)=_;rw[hc x];unfold NO;simp[TR f hc l]
theorem Aas[DecidableEq α]{c:α->AV}{k:IntKind}(f:α->Int)(hf:∀x y,f x=f y->x=y)(hc:∀x,c x=.int k (f x)){op:BinOp}{t e b1 b2:Nat}{z1 z2:List AV} (ht:E.tab t=some ⟨.array n e,n,b1,z1⟩) (he:E.tab e=some ⟨.int k,1,b2,z2⟩) (a b:Arr α n) :BF E op t (.agg (C1 c a.l)) (.agg (C1 c b.l))=match op with
  |.eql=>some (.bool (a==b))
  |.neq=>some (.bool (!(a==b)))
  |_=>none:=by
 show Nc E op t _ _=_;unfold Nc;simp only[ht,he,TR f hc];have hl:∀a:Arr α n,(C1 c a.l).length=n:=fun a=>by simp[C1,a.h]
 rw[AqJ ⟨trivial,hl a,hl b⟩]
 have hab:(a.l.map f==b.l.map f)=(a==b):=by
  rw[AsG,ArO,ArO];constructor
  ·intro h;refine Arr.ext' ?_;exact List.map_inj_right (fun x y=>hf x y) |>.1 h
  intro h;rw[h]
 rw[hab];cases op<;>rfl
theorem Aeq{c:α->AV}{t e g b1 b2:Nat}{z1 z2:List AV}{d2:TypeDesc}(ht:E.tab t=some ⟨.array n e,n,b1,z1⟩)(he:E.tab e=some ⟨d2,1,b2,z2⟩){a:Arr α n}(hG:E.G g=some (C1 c a.l))(x:AV) :Ao E O t (.glob g) x=match idx x n with
  |some i=>some (.rp ((C1 c a.l).drop i))
  |none=>none:=by
 unfold Ao;simp only[ht,he,hG];cases idx x n with
 |none=>rfl
 |some i=>simp only[AsQ]
theorem Ag7[Inhabited α]{c:α->AV}{a:Arr α n}{i:Nat}(h:i<n):((C1 c a.l).drop i)[0]?=some (c (a.get i)):=by
 rw[Are,Asb];exact Yn h
def Q9(a b:Int):Int:=if b<a then b else a
def QC(a b:Int):Int:=if a<b then b else a
theorem AlF{t:TypeId}{ts:List TypeId}(a b:Int):Bg E O .min (t::ts) [i64 a,i64 b]=some (i64 (Q9 a b),O):=rfl
theorem Ak5{t:TypeId}{ts:List TypeId}(a b:Int):Bg E O .max (t::ts) [i64 a,i64 b]=some (i64 (QC a b),O):=rfl
def QS{α:Type}(c:α->AV)(n:Nat)(a:Arr α n):List AV:=C1 c a.l
theorem AaD{c:α->AV}{a:Arr α n}{xs:List AV}(h:xs.length=n):splice (C1 c a.l) 0 xs=xs:=by
 refine ArJ fun k=>?_
 rw[KZ _ _ _ (by rw[Dr];omega)];by_cases hk:k<n
 ·rw[AqJ ⟨Aq5 _,by omega⟩];rfl
 rw[AqI (by omega),ArU (by rw[Dr];omega),ArU (by omega)]
attribute [go_sem] Option.isSome_none
attribute [go_sem] Ag7 AlF Ak5 QS
attribute [go_sem ↓] AaD
def Ai2(P:Program)(B:∀H:Type,DataW H->Nat)(fuel:Nat)(t:TypeId){α:Type}(c:α->List AV)(sz:α->Nat)(ok:α->Prop):Prop :=
 ∀(H:Type) (enc:TypeId×Value->H) (W:World) (pr:Addr->Prop),(∀a,pr a)->∀(cs:List Value) (d:DataW H) (ps:List MemPlace),
  DataW.trod enc P W 0 (fun _=>true) true fuel t cs=some (d,ps) ->
  ∃x:α,cs.length=(c x).length/\sz x<=B H d/\ok x/\∀(j:Nat) (y:AV),(c x)[j]?=some y->Rep W pr [] (cs.getD j undef) y/\one (cs.getD j undef)=true
section
variable {P:Program}{B:∀H:Type,DataW H->Nat}
theorem Opens.at{t:TypeId}{α:Type}{c:α->List AV}{sz:α->Nat}{ok:α->Prop}(h:Opens P B t c sz ok)(fuel:Nat):Ai2 P B fuel t c sz ok :=
 fun H enc W pr hpr cs d ps ht=>h H enc W pr hpr fuel cs d ps ht
end
end Go.Rv
