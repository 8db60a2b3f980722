/-
  Part 26.
-/
import Derived.Test.YtldngkmkhfddpaaDoorYT25
namespace Go.Rv
set_option linter.unusedVariables false
set_option linter.unusedSimpArgs false
theorem VD{P:Program}{B:∀H:Type,DataW H→Nat}{t e:TypeId}{n:Nat}(hB:BulkOk B)(ht:P.underlying t=some (.array n e))(hn:P.cellsOf t=n)(h1:P.cellsOf e=1){α:Type}{c:α→AV}{sz:α→Nat}{ok:α→Prop}
    (he:Opens P B e (fun x=>[c x]) sz ok):Opens P B t (fun a:Arr α n=>C1 c a.l) (fun a=>(a.l.map sz).sum) (fun a=>∀x∈a.l,ok x):=by
  intro H enc W pr hpr fuel cs d ps h
  cases fuel with
  |zero=>cases h
  | succ fuel=>
    unfold DataW.trod at h
    rw[ht]at h
    split at h<;>try (rename_i hh;cases hh;done)
    all_goals try (rename_i hh _;cases hh;done)
    all_goals try (cases h;done)
    all_goals try (exfalso;rename ∀(n':Nat) (e':TypeId),some (TypeDesc.array n e)=some (TypeDesc.array n' e')→False=>hh;exact hh _ _ rfl)
    rename_i cs _ _ n' e' hk
    cases hk
    split at h
    case isFalse=>cases h
    rename_i hl
    rw[hn]at hl
    rw[Option.map_eq_some_iff]at h
    obtain⟨xs,hxs,h⟩:=h
    simp only[Prod.mk.injEq]at h
    obtain⟨rfl,_⟩:=h
    obtain⟨hlen,hget⟩:=TA hxs
    rw[List.length_range]at hlen
    have hex:∀i,i<n→∃x:α,sz x≤B H ((xs.map (·.1)).getD i .nil)∧ok x∧Rep W pr [] (cs.getD i undef) (c x)∧one (cs.getD i undef)=true:=by
      intro i hi
      obtain⟨i',hi',hf⟩:=hget i (xs[i]'(by omega)) (List.getElem?_eq_getElem _)
      rw[List.getElem?_range hi]at hi'
      cases hi'
      rw[h1,Nat.mul_one]at hf
      obtain⟨x,r1,r2,r3,r4⟩:=he H enc W pr hpr fuel _ _ _ hf
      have:=r4 0 (c x) rfl
      have ed:((cs.drop i).take 1).getD 0 undef=cs.getD i undef:=by
        simp[List.getD_eq_getElem?_getD,List.getElem?_take,List.getElem?_drop]
      rw[ed]at this
      refine⟨x,?_,r3,this.1,this.2⟩
      have eg:(xs.map (·.1)).getD i .nil=(xs[i]'(by omega)).1:=by
        simp[List.getD_eq_getElem?_getD,List.getElem?_map,List.getElem?_eq_getElem (show i<xs.length by omega)]
      rw[eg];exact r2
    obtain⟨l,hll,hl2⟩:=Le _ n hex
    refine⟨⟨l,hll⟩,by simp[C1,hll,hl],?_,fun x hx=>?_,fun j y hj=>?_⟩
    · refine Nat.le_trans ?_ (hB.agg H (xs.map (·.1)))
      refine Sh (by simp;omega) ?_
      intro i x y hx hy
      simp only[List.getElem?_map,Option.map_eq_some_iff]at hx hy
      obtain⟨u,hu,rfl⟩:=hx
      obtain⟨v,hv,rfl⟩:=hy
      obtain⟨h3,_⟩:=hl2 i u hu
      have:(xs.map (·.1)).getD i .nil=v:=by
        obtain⟨v',hv',rfl⟩:=hv
        simp[List.getD_eq_getElem?_getD,List.getElem?_map,hv']
      rw[this]at h3;exact h3
    · obtain⟨i,hi,rfl⟩:=List.getElem_of_mem hx
      exact(hl2 i l[i] (List.getElem?_eq_getElem hi)).2.1
    · simp only[C1,List.getElem?_map,Option.map_eq_some_iff]at hj
      obtain⟨x,hx,rfl⟩:=hj
      exact(hl2 j x hx).2.2
variable {E:Env}{σ:Ad}
theorem Wk{α:Type}{c:α→AV}{t n e g b1 b2:Nat}{z1 z2:List AV}{d2:TypeDesc}(ht:E.tab t=some ⟨.array n e,n,b1,z1⟩)(he:E.tab e=some ⟨d2,1,b2,z2⟩){a:Arr α n}(hG:E.G g=some (C1 c a.l))(x:AV) :
 As E σ t (.glob g) x=match idx x n with
  |some i=>some (.rp ((C1 c a.l).drop i))
  |none=>none:=by
 unfold As
 simp only[ht,he,hG]
 cases idx x n with
 |none=>rfl
 |some i=>simp only[Nat.mul_one]
theorem Z2{α:Type}[Inhabited α]{c:α→AV}{n:Nat}{a:Arr α n}{i:Nat}(h:i<n):((C1 c a.l).drop i)[0]?=some (c (a.get i)):=by
 rw[List.getElem?_drop,Nat.add_zero]
 exact RI h
def QV(a b:Int):Int:=if b<a then b else a
def Ph(a b:Int):Int:=if a<b then b else a
theorem Aaf{t:TypeId}{ts:List TypeId}(a b:Int):Ba E σ .min (t::ts) [i64 a,i64 b]=some (i64 (QV a b),σ):=rfl
theorem Ab3{t:TypeId}{ts:List TypeId}(a b:Int):Ba E σ .max (t::ts) [i64 a,i64 b]=some (i64 (Ph a b),σ):=rfl
def cArr{α:Type}(c:α→AV)(n:Nat)(a:Arr α n):List AV:=C1 c a.l
theorem SH{α:Type}{c:α→AV}{n:Nat}{a:Arr α n}{xs:List AV}(h:xs.length=n):splice (C1 c a.l) 0 xs=xs:=by
 refine List.ext_getElem? fun k=>?_
 rw[H6 _ _ _ (by rw[CM];omega)]
 by_cases hk:k<n
 ·rw[if_pos ⟨Nat.zero_le _,by omega⟩];rfl
 ·rw[if_neg (by omega),List.getElem?_eq_none (by rw[CM];omega),List.getElem?_eq_none (by omega)]
attribute [go_sem] Option.isSome_none
attribute [go_sem] Z2 Aaf Ab3 cArr
attribute [go_sem ↓] SH
def Zs(P:Program)(B:∀H:Type,DataW H→Nat)(fuel:Nat)(t:TypeId){α:Type}(c:α→List AV)(sz:α→Nat)(ok:α→Prop):Prop :=
 ∀(H:Type) (enc:TypeId×Value→H) (W:World) (pr:Addr→Prop),(∀a,pr a)→∀(cs:List Value) (d:DataW H) (ps:List MemPlace),
  DataW.trod enc P W 0 (fun _=>true) true fuel t cs=some (d,ps) →
  ∃x:α,cs.length=(c x).length∧sz x≤B H d∧ok x∧∀(j:Nat) (y:AV),(c x)[j]?=some y→Rep W pr [] (cs.getD j undef) y∧one (cs.getD j undef)=true
section
variable {P:Program}{B:∀H:Type,DataW H→Nat}
theorem Opens.at{t:TypeId}{α:Type}{c:α→List AV}{sz:α→Nat}{ok:α→Prop}(h:Opens P B t c sz ok)(fuel:Nat):Zs P B fuel t c sz ok :=
 fun H enc W pr hpr cs d ps ht=>h H enc W pr hpr fuel cs d ps ht
end
end Go.Rv
