/-
  Part 23.
-/
import Derived.Test.YtldngkmkhfddpaaDoorYT22
import GoSem.ClaimChange
namespace Go.Rv
set_option linter.unusedVariables false
set_option linter.unusedSimpArgs false
structure BulkOk(B:∀H:Type,DataW H→Nat):Prop where
  one:∀(H:Type) (d:DataW H),1≤B H d
  str:∀(H:Type) (l:List UInt8),l.length+1≤B H (.lit (.string l))
  slice:∀(H:Type) (elems spare:List (DataW H)),(elems.map (B H)).sum+1≤B H (.slice elems spare)
  agg:∀(H:Type) (parts:List (DataW H)),(parts.map (B H)).sum≤B H (.agg parts)
def Opens(P:Program)(B:∀H:Type,DataW H→Nat)(t:TypeId){α:Type}(c:α→List AV)(sz:α→Nat)(ok:α→Prop):Prop :=
 ∀(H:Type) (enc:TypeId×Value→H) (W:World) (pr:Addr→Prop),(∀a,pr a)→∀(fuel:Nat) (cs:List Value) (d:DataW H) (ps:List MemPlace),
  DataW.trod enc P W 0 (fun _=>true) true fuel t cs=some (d,ps) →
  ∃x:α,cs.length=(c x).length∧sz x≤B H d∧ok x∧∀(j:Nat) (y:AV),(c x)[j]?=some y→Rep W pr [] (cs.getD j undef) y∧one (cs.getD j undef)=true
section
variable {P:Program}{B:∀H:Type,DataW H→Nat}{t:TypeId}
theorem RM{W:World}{pr:Addr→Prop}{v:Value}{x:AV}(h:Rep W pr [] v x)(ho:one v=true):∀(j:Nat) (y:AV),[x][j]?=some y→Rep W pr [] ([v].getD j undef) y∧one ([v].getD j undef)=true:=by
 intro j y hj
 cases j with
 |zero=>cases hj;exact⟨h,ho⟩
 |succ j=>simp at hj
theorem T6(hB:BulkOk B)(ht:P.underlying t=some (.int .i64)):Opens P B t VN (fun _=>1) (fun x=>-9223372036854775808≤x∧x≤9223372036854775807):=by
  intro H enc W pr hpr fuel cs d ps h
  cases fuel with
  |zero=>cases h
  | succ fuel=>
    unfold DataW.trod at h
    rw[ht]at h
    split at h<;>try (rename_i hh;cases hh;done)
    all_goals try (rename_i hh _;cases hh;done)
    all_goals try (cases h;done)
    rename_i k1 k' n hk
    cases hk
    split at h
    case isFalse=>cases h
    rename_i hc2
    obtain⟨rfl,hwf⟩:=hc2
    simp only[Lit.wf,Bool.and_eq_true,decide_eq_true_eq]at hwf
    cases h
    exact⟨n,rfl,hB.one _ _,⟨hwf.1,hwf.2⟩,RM (.int _ _ _) rfl⟩
theorem Ug(hB:BulkOk B)(ht:P.underlying t=some .string):Opens P B t Eg (fun l=>l.length+1) (fun l=>l.length≤maxLen):=by
  intro H enc W pr hpr fuel cs d ps h
  cases fuel with
  |zero=>cases h
  | succ fuel=>
    unfold DataW.trod at h
    rw[ht]at h
    split at h<;>try (rename_i hh;cases hh;done)
    all_goals try (rename_i hh _;cases hh;done)
    all_goals try (cases h;done)
    rename_i b hk
    split at h
    case isFalse=>cases h
    rename_i hl
    cases h
    exact⟨b.data.toList,rfl,hB.str _ _,by simpa using hl,RM (.str _ _ _ rfl) rfl⟩
end
theorem Le{α:Type}(p:Nat→α→Prop):∀(n:Nat),(∀i,i<n→∃x,p i x)→∃l:List α,l.length=n∧∀(i:Nat) (x:α),l[i]?=some x→p i x
  |0,_=>⟨[],rfl,fun i x h=>by simp at h⟩
  | n + 1,h=>by
    obtain⟨l,hl,hp⟩:=Le p n (fun i hi=>h i (by omega))
    obtain⟨x,hx⟩:=h n (by omega)
    refine⟨l++[x],by simp[hl],fun i y hy=>?_⟩
    rcases Nat.lt_or_ge i n with hi|hi
    · rw[List.getElem?_append_left (by omega)]at hy;exact hp i y hy
    · rw[List.getElem?_append_right (by omega)]at hy
      have:i-l.length=0:=by
        have:=(List.getElem?_eq_some_iff.1 hy).1;simp at this;exact this
      rw[this]at hy
      cases hy
      have:i=n:=by omega
      subst this
      exact hx
theorem Sh{l m:List Nat}(hl:l.length=m.length)(h:∀(i:Nat) (x y:Nat),l[i]?=some x→m[i]?=some y→x≤y):l.sum≤m.sum:=by
  induction l generalizing m with
  |nil=>simp
  | cons a l ih=>
    cases m with
    |nil=>simp at hl
    | cons b m=>
      have h0:=h 0 a b rfl rfl
      have h1:=ih (by simpa using hl) (fun i x y hx hy=>h (i+1) x y (by simpa using hx) (by simpa using hy))
      simp
      omega
theorem TA{α β:Type}{f:α→Option β}:∀{l:List α} {r:List β},l.mapM f=some r→l.length=r.length∧∀(i:Nat) (y:β),r[i]?=some y→∃x,l[i]?=some x∧f x=some y :=
 fun{l r} h=>G4 f l r h
theorem LX{V X:Type}{f:V→Option (V⊕X)}(I:V→Prop)(μ:V→Nat)(Q:X→Prop)
    (h:∀v,I v→(∃v',f v=some (.inl v')∧I v'∧μ v'<μ v)∨(∃x,f v=some (.inr x)∧Q x)):∀(n:Nat) (v:V),I v→μ v<n→∃x,S9 f n v=some x∧Q x
  |0,v,_,hn=>absurd hn (Nat.not_lt_zero _)
  | n + 1,v,hv,hn=>by
    unfold S9
    rcases h v hv with⟨v',h1,h2,h3⟩|⟨x,h1,h2⟩
    · rw[h1]
      exact LX I μ Q h n v' h2 (by omega)
    · rw[h1]
      exact⟨x,rfl,h2⟩
theorem FU{V X:Type}{f:V→Option (V⊕X)}(I:V→Prop)(μ:V→Nat)(Q:X→Prop)
 (h:∀v,I v→(∃v',f v=some (.inl v')∧I v'∧μ v'<μ v)∨(∃x,f v=some (.inr x)∧Q x)) {v0:V} (h0:I v0) (hm:μ v0<18446744073709551616):∃x,CJ f v0=some x∧Q x :=
 LX I μ Q h _ v0 h0 hm
theorem Ce{k n:Nat}(h:k<n):InR (k:Int) n:=by unfold InR;omega
def M1(P:Program)(B:∀H:Type,DataW H→Nat)(fs:List Field)(o:Nat){α:Type}(c:α→List AV)(sz:α→Nat)(ok:α→Prop):Prop :=
 ∀(H:Type) (enc:TypeId×Value→H) (W:World) (pr:Addr→Prop),(∀a,pr a)→∀(fuel:Nat) (cs:List Value) (l:List (DataW H×List MemPlace)),
  (fs.mapM fun f=>DataW.trod enc P W 0 (fun _=>true) true fuel f.type ((cs.drop f.offset).take (P.cellsOf f.type)))=some l →
  ∃x:α,sz x≤(l.map fun d=>B H d.1).sum∧ok x∧∀(j:Nat) (y:AV),(c x)[j]?=some y→Rep W pr [] (cs.getD (o+j) undef) y∧one (cs.getD (o+j) undef)=true
theorem Pp{P:Program}{B:∀H:Type,DataW H→Nat}{o:Nat}:M1 P B [] o (fun _:Unit=>[]) (fun _=>0) (fun _=>True):=by
 intro H enc W pr hpr fuel cs l h
 exact⟨(),by simp,trivial,fun j y hj=>by simp at hj⟩
theorem JQ{P:Program}{B:∀H:Type,DataW H→Nat}{f:Field}{fs:List Field}{o k:Nat}{α β:Type}{c1:α→List AV}{sz1:α→Nat}{ok1:α→Prop}{c2:β→List AV}{sz2:β→Nat}{ok2:β→Prop}
 (ho:f.offset=o) (hk:P.cellsOf f.type=k) (hck:∀x,(c1 x).length=k) (h1:Opens P B f.type c1 sz1 ok1) (h2:M1 P B fs (o+k) c2 sz2 ok2) :
 M1 P B (f::fs) o (fun x:α×β=>c1 x.1++c2 x.2) (fun x=>sz1 x.1+sz2 x.2) (fun x=>ok1 x.1∧ok2 x.2):=by
 intro H enc W pr hpr fuel cs l h
 rw[List.mapM_cons]at h
 simp only[Option.bind_eq_bind,Option.bind_eq_some_iff]at h
 obtain⟨d,hd,l2,hl,h⟩:=h
 cases h
 obtain⟨x,e1,e2,e3,e4⟩:=h1 H enc W pr hpr fuel _ d.1 d.2 hd
 obtain⟨y,g1,g2,g3⟩:=h2 H enc W pr hpr fuel cs l2 hl
 refine⟨(x,y),by simp only[List.map_cons,List.sum_cons];omega,⟨e3,g2⟩,fun j z hj=>?_⟩
 by_cases hjk:j<k
 ·rw[List.getElem?_append_left (by rw[hck];exact hjk)]at hj
  have:=e4 j z hj
  have e:((cs.drop f.offset).take (P.cellsOf f.type)).getD j undef=cs.getD (o+j) undef:=by
   simp only[List.getD_eq_getElem?_getD,List.getElem?_take,List.getElem?_drop,hk,ho,hjk,if_true]
  rwa[e]at this
 ·rw[List.getElem?_append_right (by rw[hck];omega),hck]at hj
  have:=g3 (j-k) z hj
  rwa[show o+k+(j-k)=o+j by omega]at this
theorem OT{P:Program}{B:∀H:Type,DataW H→Nat}{t:TypeId}{fs:Array Field}(hB:BulkOk B)(ht:P.underlying t=some (.struct fs)){α β:Type}{c:α→List AV}{sz:α→Nat}{ok:α→Prop}{n:Nat}
    (hn:P.cellsOf t=n) (hf:M1 P B fs.toList 0 c sz ok) (e:α→β) {cb:β→List AV} {szb:β→Nat} {okb:β→Prop} (hc:∀x,cb (e x)=c x) (hcn:∀x,(cb x).length=n) (hs:∀x,szb (e x)≤sz x) (hok:∀x,ok x→okb (e x)) :
    Opens P B t cb szb okb:=by
  intro H enc W pr hpr fuel cs d ps h
  cases fuel with
  |zero=>cases h
  | succ fuel=>
    unfold DataW.trod at h
    rw[ht]at h
    split at h<;>try (rename_i hh;cases hh;done)
    all_goals try (rename_i hh _;cases hh;done)
    all_goals try (cases h;done)
    case h_21=>
      exfalso
      rename ∀(fs':Array Field),some (TypeDesc.struct fs)=some (TypeDesc.struct fs')→False=>hh
      exact hh _ rfl
    rename_i fs' hk
    cases hk
    split at h
    case isFalse=>cases h
    rename_i hl
    rw[Option.map_eq_some_iff]at h
    obtain⟨l,hl2,he⟩:=h
    obtain⟨x,h1,h2,h3⟩:=hf H enc W pr hpr fuel _ l hl2
    cases he
    refine⟨e x,by rw[hcn,hl,hn],?_,hok x h2,fun j y hj=>?_⟩
    · have:=hB.agg H (l.map (·.1))
      rw[List.map_map]at this
      exact Nat.le_trans (hs x) (Nat.le_trans h1 this)
    · rw[hc]at hj
      have:=h3 j y hj
      rwa[Nat.zero_add]at this
end Go.Rv
