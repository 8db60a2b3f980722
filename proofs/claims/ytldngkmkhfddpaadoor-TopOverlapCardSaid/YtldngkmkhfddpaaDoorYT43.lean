/-
  Part 43.
-/
import Derived.Test.YtldngkmkhfddpaaDoorYT42
namespace Go.Rv
open Go.RowKit
set_option linter.unusedVariables false
set_option linter.unusedSimpArgs false
variable {E:Env}
theorem IZ{ops:Array Oper}{T:List (List Nat)}(hc:Er ops T=true){rem:List Nat}{listed:Array Bool}(hs:listed.size=ops.size)(hl:∀j,listed.getD j true=false↔j∈rem)(i:Nat) :
 i∈Region.ready .any ops listed↔i∈rem∧∀d∈Dy ops i,d ∉ rem:=by
 have hin:∀j∈rem,j<ops.size:=by
  intro j hj
  have:=(hl j).2 hj
  by_cases e:j<listed.size
  ·omega
  ·simp[Array.getD,e]at this
 have hgd:∀d,d<ops.size→(listed.getD d false=true↔d ∉ rem):=by
  intro d hd
  have h1:listed.getD d false=listed.getD d true:=by
   have:d<listed.size:=by omega
   simp[Array.getD,this]
  rw[h1,←hl d]
  cases listed.getD d true<;>simp
 rw[mem_ready,hl i]
 constructor
 ·rintro⟨h1,o,ho,h2⟩
  refine⟨h1,fun d hd=>?_⟩
  have hlt:=CQ hc (hin i h1) hd
  have hds:=Nat.lt_trans hlt (hin i h1)
  obtain⟨e,he,hb,rfl⟩:=(DP ho).1 hd
  exact(hgd _ hds).1 (h2 e he hb)
 ·rintro⟨h1,h2⟩
  have hi:=hin i h1
  refine⟨h1,ops[i],Array.getElem?_eq_getElem hi,fun e he hb=>?_⟩
  have hd:e.on∈Dy ops i:=(DP (Array.getElem?_eq_getElem hi)).2 ⟨e,he,hb,rfl⟩
  exact(hgd _ (Nat.lt_trans (CQ hc hi hd) hi)).2 (h2 _ hd)
theorem MC{ops:Array Oper}{rem:List Nat}{listed:Array Bool}(hs:listed.size=ops.size)(hl:∀j,listed.getD j true=false↔j∈rem):∀j∈rem,j<ops.size:=by
 intro j hj
 have:=(hl j).2 hj
 by_cases e:j<listed.size
 ·omega
 ·simp[Array.getD,e]at this
theorem Ma{ops:Array Oper}{T:List (List Nat)}(hc:Er ops T=true){rem:List Nat}{listed:Array Bool}(hp:rem.Pairwise (·<·))(hs:listed.size=ops.size)(hl:∀j,listed.getD j true=false↔j∈rem)(hr:Region.ready .any ops listed=[]):rem=[]:=by
  cases rem with
  |nil=>rfl
  | cons i r=>
    have hi:i∈Region.ready .any ops listed:=(IZ hc hs hl i).2 ⟨List.mem_cons_self,fun d hd hm=>by
      have:=CQ hc (MC hs hl i List.mem_cons_self) hd
      rcases List.mem_cons.1 hm with rfl|hm
      · omega
      · have:=List.rel_of_pairwise_cons hp hm
        omega⟩
    rw[hr]at hi
    cases hi
theorem Lh(hE:E.Ok){orc:Option Tmp→Orc}(hO:GV E.toBase orc){ops:Array Oper}{T:List (List Nat)}(hc:Er ops T=true){n0 n1 k2:Nat}(hn1:n1+k2=ops.size)(hT:∀i,n0≤i→i<ops.size→∀j,j<i→j<n1→j∈T.getD i []){m n:Nat}{fr':Fr}{σ':Ad}{Q:Exit→Act→World→Prop} :
    ∀ (k i0:Nat) (l:List Oper) (listed:Array Bool) (fr:Fr) (σ:Ad) (a:Act) (w:World) (g:Gh),i0+k=n1→l.length=k→(∃r,ops.toList.drop i0=l++r)→n0≤i0→listed.size=ops.size→(∀j,listed.getD j true=false↔j∈List.range' i0 (k+k2)) →
      BJ E orc false n ops l (fr,σ)=some (fr',σ')→Rel E w g ⟨Am n fr,σ⟩ a→(∀a' w' g' listed',Rel E w' g' ⟨Am n fr',σ'⟩ a'→Evo E m w g w' g'→listed'.size=ops.size→(∀j,listed'.getD j true=false↔j∈List.range' n1 k2)→wpAny E.P .any ops Q k2 listed' a' w')→wpAny E.P .any ops Q (k+k2) listed a w
  | 0,i0,l,listed,fr,σ,a,w,g,hk,hll,hdl,hn0,hs,hl,hst,hr,hq=>by
    have:l=[]:=List.length_eq_zero_iff.1 hll
    subst this
    simp only[BJ,Option.some.injEq,Prod.mk.injEq]at hst
    obtain⟨rfl,rfl⟩:=hst
    have:i0=n1:=by omega
    subst this
    rw[Nat.zero_add]at hl ⊢
    exact hq a w g listed hr (Evo.refl _ _ _ _) hs hl
  |k+1,i0,[],listed,fr,σ,a,w,g,hk,hll,hdl,hn0,hs,hl,hst,hr,hq=>by simp at hll
  | k + 1,i0,o::l,listed,fr,σ,a,w,g,hk,hll,hdl,hn0,hs,hl,hst,hr,hq=>by
    simp only[BJ,Option.bind_eq_some_iff]at hst
    obtain⟨⟨fr1,σ1⟩,h1,h2⟩:=hst
    have hio:ops[i0]?=some o:=by
      obtain⟨r,hdl⟩:=hdl
      have:(ops.toList.drop i0)[0]?=some o:=by rw[hdl];rfl
      rw[List.getElem?_drop]at this
      simpa using this
    have hdl':∃r,ops.toList.drop (i0+1)=l++r:=by
      obtain⟨r,hdl⟩:=hdl
      exact⟨r,by rw[←List.tail_drop,hdl];rfl⟩
    rw[show k+1+k2=(k+k2)+1 by omega]at hl ⊢
    refine⟨fun h=>?_,fun i hi=>?_⟩
    · have:=Ma hc (List.pairwise_lt_range' (s:=i0) (n:=k+k2+1)) hs hl h
      simp[List.range'_succ]at this
    · obtain⟨hir,hid⟩:=(IZ hc hs hl i).1 hi
      have hin:=MC hs hl i hir
      have hd:∀k',k'<ops.size→k' ∉ List.range' i0 (k+k2+1)→∀d∈Dy ops k',d ∉ List.range' i0 (k+k2+1):=by
        intro k' hk' hkn d hdk hdm
        have:=CQ hc hk' hdk
        rw[List.mem_range'_1]at hkn hdm
        omega
      have hei:i=i0:=by
        by_cases e:i=i0
        · exact e
        · have h3:i0<i:=by rw[List.mem_range'_1]at hir;omega
          exact(E9 hc hd i hin hid i0 (hT i (by omega) hin i0 h3 (by omega)) (by rw[List.mem_range'_1];omega)).elim
      subst hei
      refine Xx (m:=m) hE hO hio h1 hr fun a1 w1 g1 hr1 he1=>?_
      refine Lh hE hO hc hn1 hT k (i+1) l _ fr1 σ1 a1 w1 g1 (by omega) (by simpa using hll) hdl' (by omega) (by simp[hs]) ?_ h2 hr1 fun a2 w2 g2 li2 hr2 he2 hs2 hl2=>hq a2 w2 g2 li2 hr2 (he1.trans he2) hs2 hl2
      intro j
      by_cases e:j=i
      · subst e
        have:j<listed.size:=by omega
        simp[Array.getD,this,List.mem_range'_1];omega
      · rw[getD_set_ne true (fun h=>e h.symm),hl j]
        simp only[List.mem_range'_1]
        omega
theorem JV(hE:E.Ok){orc:Option Tmp→Orc}(hO:∀d,K5 E.toBase (orc d)){ops:Array Oper}{T:List (List Nat)}(hc:Er ops T=true){n0 kk:Nat}(hn:n0+kk=ops.size)(hT:∀i,n0≤i→i<ops.size→∀j,j<n0→j∈T.getD i []){st':St}(lo:Nat)(hfront:∀(i:Nat) (his:i<ops.size) (l1 l2:List Nat) (st:St),(∀k∈l1++i::l2,lo≤k)→(l1++i::l2).Pairwise (·<·)→(∀j∈l1,j ∉ T.getD i [])→AF E orc ops (l1++i::l2) st=some st' →
      ∃st1,C6 E orc ops ops[i] st=some st1∧AF E orc ops (l1++l2) st1=some st') {Q:Exit→Act→World→Prop} :
    ∀ (fuel:Nat) (rem:List Nat) (listed:Array Bool) (st:St) (a:Act) (w:World) (g:Gh),(∀k∈rem,lo≤k)→rem.length=fuel→(rem++List.range' n0 kk).Pairwise (·<·)→listed.size=ops.size →
      (∀j,listed.getD j true=false↔j∈rem++List.range' n0 kk)→(∀k,k<ops.size→k ∉ rem++List.range' n0 kk→∀d∈Dy ops k,d ∉ rem++List.range' n0 kk) →
      AF E orc ops rem st=some st'→Rel E w g st a→(∀a' w' g' listed',Rel E w' g' st' a'→Evo E 0 w g w' g'→GLe g g'→listed'.size=ops.size→(∀j,listed'.getD j true=false↔j∈List.range' n0 kk)→wpAny E.P .any ops Q kk listed' a' w') →
      wpAny E.P .any ops Q (fuel+kk) listed a w:=by
  intro fuel
  induction fuel with
  | zero=>
    intro rem listed st a w g hlo hf hp hs hl hd hst hr hq
    have:rem=[]:=List.length_eq_zero_iff.1 hf
    subst this
    simp only[AF,Option.some.injEq]at hst
    subst hst
    rw[Nat.zero_add]
    exact hq a w g listed hr (Evo.refl _ _ _ _) (GLe.refl _) hs (by simpa using hl)
  | succ fuel ih=>
    intro rem listed st a w g hlo hf hp hs hl hd hst hr hq
    rw[show fuel+1+kk=(fuel+kk)+1 by omega]
    refine⟨fun h=>?_,fun i hi=>?_⟩
    · have:=Ma hc hp hs hl h
      have h7:=(List.append_eq_nil_iff.1 this).1
      subst h7
      simp at hf
    · obtain⟨hir0,hid⟩:=(IZ hc hs hl i).1 hi
      have his:=MC hs hl i hir0
      have hlt0:∀j∈rem,j<n0∨kk=0:=by
        intro j hj
        by_cases e:kk=0
        · exact .inr e
        · exact .inl ((List.pairwise_append.1 hp).2.2 j hj n0 (by rw[List.mem_range'_1];omega))
      have hir:i∈rem:=by
        rcases List.mem_append.1 hir0 with h|h
        · exact h
        rw[List.mem_range'_1]at h
        obtain⟨j,hj⟩:∃j,j∈rem:=by
          cases rem with
          |nil=>simp at hf
          |cons j r=>exact⟨j,List.mem_cons_self⟩
        have h5:=hlt0 j hj
        exact(E9 hc hd i his hid j (hT i h.1 his j (by omega)) (List.mem_append_left _ hj)).elim
      obtain⟨l1,l2,rfl⟩:=List.append_of_mem hir
      have hp0:=(List.pairwise_append.1 hp).1
      have hp':=hp0
      rw[List.pairwise_append]at hp'
      obtain⟨p1,p2,p3⟩:=hp'
      have hin0:i<n0∨kk=0:=hlt0 i hir
      have hnd:∀j∈l1++l2,j≠i:=by
        intro j hj
        rcases List.mem_append.1 hj with hj|hj
        · have:=p3 j hj i List.mem_cons_self;omega
        · have:=List.rel_of_pairwise_cons p2 hj;omega
      have hmem:∀j,j∈(l1++l2)++List.range' n0 kk↔j∈(l1++i::l2)++List.range' n0 kk∧j≠i:=by
        intro j
        constructor
        · intro hj
          rcases List.mem_append.1 hj with hj|hj
          · refine⟨?_,hnd j hj⟩
            simp only[List.mem_append,List.mem_cons]at hj ⊢
            rcases hj with hj|hj
            · exact .inl (.inl hj)
            · exact .inl (.inr (.inr hj))
          · refine⟨List.mem_append_right _ hj,?_⟩
            rw[List.mem_range'_1]at hj
            omega
        · rintro⟨hj,hne⟩
          simp only[List.mem_append,List.mem_cons]at hj ⊢
          rcases hj with(hj|hj|hj)|hj
          · exact .inl (.inl hj)
          · exact(hne hj).elim
          · exact .inl (.inr hj)
          · exact .inr hj
      obtain⟨st1,h1,h2⟩:=hfront i his l1 l2 st hlo hp0 (fun j hj hT=>E9 hc hd i his hid j hT (List.mem_append_left _ (List.mem_append_left _ hj))) hst
      refine Kr hE hO (Array.getElem?_eq_getElem his) h1 hr fun a1 w1 g1 hr1 he1 hg1=>?_
      refine ih (l1++l2) (listed.setIfInBounds i true) st1 a1 w1 g1 (fun k hk=>hlo k (by simp only[List.mem_append,List.mem_cons]at hk ⊢;rcases hk with hk|hk;exact .inl hk;exact .inr (.inr hk))) ?_ ?_ ?_ ?_ ?_ h2 hr1 ?_
      · simp at hf ⊢;omega
      · exact hp.sublist (List.Sublist.append_right (List.Sublist.append_left (List.sublist_cons_self i l2) l1) _)
      · simp[hs]
      · intro j
        rw[hmem j,←hl j]
        by_cases e:j=i
        · subst e
          have:j<listed.size:=by omega
          simp[Array.getD,this]
        · rw[getD_set_ne true (fun h=>e h.symm)]
          simp[e]
      · intro k hk hkn d hdk hdm
        have hd2:=((hmem d).1 hdm).1
        by_cases e:k=i
        · subst e
          exact hid d hdk hd2
        · exact hd k hk (fun h=>hkn ((hmem k).2 ⟨h,e⟩)) d hdk hd2
      · intro a' w' g' listed' hr' he' hg'
        exact hq a' w' g' listed' hr' (he1.trans he') (hg1.trans hg')
def KC:List Unit→List Oper→List Oper
 |[],_=>[]
 |_::_,[]=>[]
 |_::us,x::l=>x::KC us l
def Hv:List Unit→List Oper→List Oper
 |[],l=>l
 |_::_,[]=>[]
 |_::us,_::l=>Hv us l
attribute [go_sem] KC Hv
theorem Nv:∀(us:List Unit) (l:List Oper),KC us l=l.take us.length
 |[],l=>by simp[KC]
 |_::us,[]=>by simp[KC]
 |_::us,x::l=>by simp[KC,Nv us l]
theorem Ks:∀(us:List Unit) (l:List Oper),Hv us l=l.drop us.length
 |[],l=>by simp[Hv]
 |_::us,[]=>by simp[Hv]
 |_::us,x::l=>by simp[Hv,Ks us l]
def PN(E:Env)(ops:Array Oper)(n0 n1:Nat)(T:List (List Nat)):Bool:=decide (n0≤n1)&&decide (n1≤ops.size)&&(List.range ops.size).all fun i=>decide (i<n0)||(List.range i).all fun j=>(T.getD i []).contains j||(decide (n1≤j)&&(match ops[j]?,ops[i]? with
  |some x,some y=>Im E ops x y
  |_,_=>false))
def AdK(E:Env)(orc:Option Tmp→Orc)(n:Nat)(us:List Unit)(l:List Oper)(s:Fr×Ad):Option (Fr×Ad):=BJ E orc true n l.toArray (KC us l) s
def AbD(E:Env)(orc:Option Tmp→Orc)(n:Nat)(us vs:List Unit)(l:List Oper)(ts:List Nat)(s:Fr×Ad):Option (Fr×Ad):=(BJ E orc false n l.toArray (KC vs (Hv us l)) s).bind fun r=>(BJ E orc true n l.toArray (Hv vs (Hv us l)) r).bind fun r=>some (keep ts r.1,r.2)
theorem ZE{orc:Option Tmp→Orc}{n:Nat}{us:List Unit}{l:List Oper}{s:Fr×Ad}:AdK E orc n us l s=HS E orc true n l.toArray (KC us l) (some s):=by
 rw[Gu];rfl
theorem Y2{orc:Option Tmp→Orc}{n:Nat}{us vs:List Unit}{l:List Oper}{ts:List Nat}{s:Fr×Ad}:AbD E orc n us vs l ts s=AaR ts (HS E orc true n l.toArray (Hv vs (Hv us l)) (HS E orc false n l.toArray (KC vs (Hv us l)) (some s))):=by
  rw[Gu]
  unfold AbD
  cases BJ E orc false n l.toArray (KC vs (Hv us l)) s with
  |none=>rw[Il];rfl
  | some r=>
    rw[Gu]
    unfold AaR
    show(BJ E orc true n l.toArray (Hv vs (Hv us l)) r).bind _=_
    cases BJ E orc true n l.toArray (Hv vs (Hv us l)) r<;>rfl
attribute [go_sem] ZE Y2
theorem Sf(hE:E.Ok)(hP:E.P.follows .mixedOrders=true){m n id:Nat}{l:List Oper}(T:List (List Nat))(hok1:Er l.toArray T=true)(us vs:List Unit)(hok3:PN E l.toArray us.length (us.length+vs.length) T=true)(ps xs:List (Nat×Nat))(ps' ts:List Nat)(hok2:Nj E l.toArray T ps xs ps'=true){fr fr':Fr}{σ σ':Ad}{K:C0}(hw:Mi E m K)
  (h:∃lz m,GV E.toBase (HI lz m)∧XOk m xs∧∃fr1 σ1,Is (AdK E (HI lz m) n us l (fr,σ)) fr1 σ1∧Oz n fr1 ps∧Is (AbD E (HI lz m) n us vs l ts (fr1,σ1)) fr' σ')
  (hk:K .normal ⟨Am n fr',σ'⟩):Run E m (.region id l.toArray true) ⟨Am n fr,σ⟩ K:=by
 obtain⟨lz,mz,hO,hX,fr1,σ1,h1,hps,h2⟩:=h
 simp only[Is,AbD,Option.bind_eq_some_iff,Option.some.injEq,Prod.mk.injEq]at h2
 obtain⟨⟨fr2,σ2⟩,h2,⟨fr3,σ3⟩,h3,rfl,rfl⟩:=h2
 generalize hn0:us.length=n0 at *
 generalize hk1:vs.length=k1 at *
 have h1':BJ E (HI lz mz) true n l.toArray (l.take n0) (fr,σ)=some (fr1,σ1):=by rw[←hn0,←Nv];exact h1
 have h2':BJ E (HI lz mz) false n l.toArray ((l.drop n0).take k1) (fr1,σ1)=some (fr2,σ2):=by rw[←hn0,←hk1,←Ks,←Nv];exact h2
 have h3':BJ E (HI lz mz) true n l.toArray (l.drop (n0+k1)) (fr2,σ2)=some (fr3,σ3):=by rw[←List.drop_drop,←hn0,←hk1,←Ks,←Ks];exact h3
 simp only[PN,Bool.and_eq_true,decide_eq_true_eq,List.size_toArray]at hok3
 obtain⟨⟨_,hle1⟩,hch⟩:=hok3
 have hle:n0≤l.length:=by omega
 have hlt:(l.take n0).length=n0:=by rw[List.length_take];omega
 have hT0:∀i,n0≤i→i<l.toArray.size→∀j,j<i→j∈T.getD i []∨(n0+k1≤j∧∃x y,l.toArray[j]?=some x∧l.toArray[i]?=some y∧Im E l.toArray x y=true):=by
  intro i hi his j hj
  have h3:=Ax hch (by simpa using his)
  simp only[Bool.or_eq_true,decide_eq_true_eq]at h3
  rcases h3 with h3|h3
  ·omega
  ·have h4:=Ax h3 hj
   simp only[Bool.or_eq_true,Bool.and_eq_true,decide_eq_true_eq,List.contains_iff_mem]at h4
   rcases h4 with h4|⟨h4,h5⟩
   ·exact .inl h4
   ·refine .inr ⟨h4,?_⟩
    split at h5
    ·rename_i x y e1 e2
     exact⟨x,y,e1,e2,h5⟩
    ·cases h5
 have hT:∀i,n0≤i→i<l.toArray.size→∀j,j<i→j<n0+k1→j∈T.getD i []:=by
  intro i hi his j hj hjn
  rcases hT0 i hi his j hj with h|⟨h,_⟩
  ·exact h
  ·omega
 have hTp:∀i,n0≤i→i<l.toArray.size→∀j,j<n0→j∈T.getD i []:=fun i hi his j hj=>hT i hi his j (by omega) (by omega)
 have hsteps3:=Hy (E:=E) (ops:=l.toArray) (n0+k1) (l.drop (n0+k1)) fr2 fr3 σ2 σ3 ⟨[],by simp⟩ h3'
 rw[show(l.drop (n0+k1)).length=l.length-(n0+k1) by simp]at hsteps3
 have hsteps:=Hy (E:=E) (ops:=l.toArray) 0 (l.take n0) fr fr1 σ σ1 ⟨l.drop n0,by simp⟩ h1'
 rw[←List.range_eq_range',hlt]at hsteps
 intro hcm ac w g hr Q hq
 refine FE (GE hcm) (wp_region_any hP ?_)
 have hsm:SameMem w { w with drawn:=w.drawn+1 }:=⟨rfl,rfl,rfl,rfl⟩
 have hval:∀t a,ps'.contains t=true→LZ ps t=some a→FW (ev (Am n fr1) (.tmp t))=some a:=by
  intro t a ht ha
  have:=I8 hps ha
  rw[CO]
  exact this
 have hsz:n0+(l.length-n0)=l.toArray.size:=by simp;omega
 have hrg:List.range n0++List.range' n0 (l.length-n0)=List.range l.length:=by
  rw[List.range_eq_range',List.range_eq_range']
  have:=List.range'_append (s:=0) (m:=n0) (n:=l.length-n0) (step:=1)
  simp only[Nat.one_mul,Nat.zero_add]at this
  rw[this,Nat.add_sub_cancel' hle]
 rw[←hsz]
 refine JV hE hO hok1 hsz hTp (st':=⟨Am n fr1,σ1⟩) 0 ?_ n0 (List.range n0) _ ⟨Am n fr,σ⟩ ac _ g (fun _ _=>Nat.zero_le _) (by simp) ?_ (by simp;omega) ?_ ?_ hsteps (G9 hr hsm) ?_
 ·intro i his l1 l2 st _ hp hT hst
  have hi:l.toArray[i]?=some l.toArray[i]:=Array.getElem?_eq_getElem his
  refine G5 hi l1 st (fun m1 j m2 e x hx=>?_) hst
  have hj:j∈l1:=by rw[e];simp
  have hji:j<i:=by
   rw[List.pairwise_append]at hp
   exact hp.2.2 j hj i List.mem_cons_self
  have h1':=Ax (Ax hok2 his) hji
  simp only[Bool.or_eq_true,List.contains_iff_mem]at h1'
  rcases h1' with h1'|h1'
  ·exact(hT j hj h1').elim
  ·simp only[hx,hi,Bool.or_eq_true,Bool.and_eq_true]at h1'
   rcases h1' with h1'|⟨h1',h2'⟩
   ·exact .inl h1'
   ·refine .inr ⟨h1',fun st3 h3=>?_⟩
    have hst3:∀t,(∀k∈((j::m2)++i::l2),∀o,l.toArray[k]?=some o→o.dst≠some t)→ev st3.fr (.tmp t)=ev (Am n fr1) (.tmp t):=fun t hk=>(DL _ _ _ hk h3).symm
    have hpw:((j::m2)++i::l2).Pairwise (·<·):=by
     rw[e,List.append_assoc]at hp
     exact(List.pairwise_append.1 hp).2.1
    have hge:∀k∈((j::m2)++i::l2),j≤k:=by
     intro k hk
     rw[List.cons_append]at hpw hk
     rcases List.mem_cons.1 hk with rfl|hk
     ·exact Nat.le_refl _
     ·exact Nat.le_of_lt (List.rel_of_pairwise_cons hpw hk)
    have hnT:∀k∈((j::m2)++i::l2),¬(k∈T.getD i []∧k<i):=by
     rintro k hk ⟨q1,q2⟩
     rcases List.mem_append.1 hk with hk|hk
     ·exact hT k (by rw[e];simp only[List.mem_append];exact .inr hk) q1
     ·rcases List.mem_cons.1 hk with rfl|hk
      ·omega
      ·have:=List.rel_of_pairwise_cons (List.pairwise_append.1 hpw).2.1 hk
       omega
    have hstill:∀(ok:Nat→Bool) t,Eh l.toArray ps' ok t=true→(∀k∈((j::m2)++i::l2),ok k=false)→ps'.contains t=true∧ev st3.fr (.tmp t)=ev (Am n fr1) (.tmp t):=by
     intro ok t h hno
     simp only[Eh,Bool.and_eq_true]at h
     refine⟨h.1,hst3 t fun k hk o hko=>?_⟩
     have h2:=Ax h.2 (Array.getElem?_eq_some_iff.1 hko).1
     rw[hno k hk,hko]at h2
     simpa using h2
    have hq0:∀q,Eh l.toArray ps' (fun k=>(T.getD i []).contains k&&decide (k<i)) q=true→ps'.contains q=true∧ev st3.fr (.tmp q)=ev (Am n fr1) (.tmp q):=fun q s1=>hstill _ q s1 (fun k hk=>by
     have:=hnT k hk
     simp only[Bool.and_eq_false_iff,decide_eq_false_iff_not]
     by_cases hm:k∈T.getD i []
     ·exact .inr fun h=>this ⟨hm,h⟩
     ·exact .inl (by simpa using hm))
    rcases h2' with h2'|h2'
    case inr=>
     unfold AeL at h2'
     split at h2'
     case h_2=>cases h2'
     rename_i p t hp' ht'
     split at h2'
     case h_1=>cases h2'
     rename_i a ha
     simp only[Bool.and_eq_true,List.contains_iff_mem]at h2'
     obtain⟨⟨s1,s2⟩,s3⟩:=h2'
     obtain⟨c1,c2⟩:=hstill _ p s1 (fun k hk=>by
      have:=hge k hk
      simp only[decide_eq_false_iff_not];omega)
     exact .callY p a hp' (by rw[c2];exact hval p a c1 ha) fun σ σ1 v hv=>I4 s2 ht' hX s3 hv
    rcases h2' with h2'|h2'
    case inr=>
     unfold AcI at h2'
     split at h2'
     case h_2=>cases h2'
     rename_i p f hop
     split at h2'
     case h_1=>cases h2'
     rename_i a ha
     obtain⟨c1,c2⟩:=hq0 p h2'
     exact .fa _ p f a hop (by rw[c2];exact hval p a c1 ha)
    rcases h2' with h2'|h2'
    case inr=>
     unfold Ac7 at h2'
     split at h2'
     case h_2=>cases h2'
     rename_i p t hp' ht'
     split at h2'
     case h_1=>cases h2'
     rename_i a ha
     simp only[Bool.and_eq_true,List.contains_iff_mem]at h2'
     obtain⟨⟨s1,s2⟩,s3⟩:=h2'
     obtain⟨c1,c2⟩:=hq0 p s1
     exact .call p a hp' (by rw[c2];exact hval p a c1 ha) fun σ σ1 v hv=>I4 s2 ht' hX s3 hv
    unfold AdY at h2'
    split at h2'
    case h_1=>cases h2'
    rename_i q hq'
    split at h2'
    case h_1=>cases h2'
    rename_i b hb
    simp only[Bool.and_eq_true,Bool.or_eq_true,Bool.not_eq_true']at h2'
    obtain⟨s1,h2'⟩:=h2'
    obtain⟨c1,c2⟩:=hq0 q s1
    have hbq:FW (ev st3.fr (.tmp q))=some b:=by rw[c2];exact hval q b c1 hb
    rcases h2' with⟨h4,h5⟩|h4
    ·exact .build q b h4 h5 hq' hbq
    ·split at h4
     case h_1=>cases h4
     rename_i p hp'
     split at h4
     case h_1=>cases h4
     rename_i a ha
     simp only[Bool.and_eq_true,bne_iff_ne]at h4
     obtain⟨c3,c4⟩:=hstill _ p h4.2 (fun k hk=>by
      have:=hge k hk
      simp only[decide_eq_false_iff_not];omega)
     exact .look p q a b hp' hq' (by rw[c4];exact hval p a c3 ha) hbq h4.1
 ·rw[hrg];exact List.pairwise_lt_range
 ·intro j
  rw[hrg,List.mem_range]
  by_cases h:j<l.length
  ·simp[Array.getD,h,hsz]
  ·simp[Array.getD,h,hsz]
 ·intro k hk hkn
  rw[hrg]at hkn
  exact(hkn (List.mem_range.2 (by simpa using hk))).elim
 ·intro a1 w1 g1 listed' hr1 he1 hg1 hs' hl'
  have hk2:l.length-n0=k1+(l.length-(n0+k1)):=by omega
  rw[hk2]at hl' ⊢
  refine Lh (m:=m) hE hO hok1 (n0:=n0) (n1:=n0+k1) (by simp;omega) hT k1 n0 ((l.drop n0).take k1) listed' fr1 σ1 a1 w1 g1 rfl (by simp;omega) ⟨l.drop (n0+k1),by rw[←List.drop_drop];exact(List.take_append_drop k1 (l.drop n0)).symm⟩ (Nat.le_refl _) hs' hl' h2' hr1 fun a2 w2 g2 li2 hr2 he2 hs2 hl2=>?_
  have h0:=JV (kk:=0) (n0:=l.toArray.size) (Q:=fun ex st=>Q ex st) hE hO hok1 (by simp) (fun i hi his=>by omega) (st':=⟨Am n fr3,σ3⟩) (n0+k1) ?_ (l.length-(n0+k1)) (List.range' (n0+k1) (l.length-(n0+k1))) li2 ⟨Am n fr2,σ2⟩ a2 w2 g2 (fun k hk=>by rw[List.mem_range'_1]at hk;exact hk.1) (by simp) (by simpa using List.pairwise_lt_range') hs2 (by simpa using hl2) ?_ hsteps3 hr2 ?_
  ·exact h0
  ·intro i his l1 l2 st hlo hp hTn hst
   refine FB (Array.getElem?_eq_getElem his) l1 st (fun j hj x hx=>?_) hst
   have hji:j<i:=by
    rw[List.pairwise_append]at hp
    exact hp.2.2 j hj i List.mem_cons_self
   have hil:=hlo i (by simp)
   rcases hT0 i (by omega) his j hji with h|⟨_,x',y',e1,e2,h⟩
   ·exact(hTn j hj h).elim
   ·rw[e1]at hx;cases hx
    rw[Array.getElem?_eq_getElem his]at e2;cases e2
    exact h
  ·intro k' hk' hkn d hdk hdm
   have:=CQ hok1 hk' hdk
   simp only[List.range'_zero,List.append_nil]at hkn hdm
   rw[List.mem_range'_1]at hkn hdm
   simp only[List.size_toArray]at hk'
   omega
  ·intro a3 w3 g3 li3 hr3 he3 hg3 hs3 hl3
   refine⟨?_,?_⟩
   ·rw[List.eq_nil_iff_forall_not_mem]
    intro i hi
    have:=((IZ hok1 hs3 hl3 i).1 hi).1
    cases this
   exact hq _ _ _ _ _ (hw _ _ (CV _ _ _ _ _) hk) hr3 ((((Evo.same hsm).trans (he1.of_gle hg1)).trans he2).trans (he3.of_gle hg3))
theorem Eb(hE:E.Ok)(hP:E.P.follows .mixedOrders=true){m n id:Nat}{l:List Oper}(T:List (List Nat))(hok1:Er l.toArray T=true)(us vs:List Unit)(hok3:PN E l.toArray us.length (us.length+vs.length) T=true)(ps xs:List (Nat×Nat))(ps' ts:List Nat)(hok2:Nj E l.toArray T ps xs ps'=true){fr fr':Fr}{σ σ':Ad}{K:C0}
 (h:∃lz m,GV E.toBase (HI lz m)∧XOk m xs∧∃fr1 σ1,Is (AdK E (HI lz m) n us l (fr,σ)) fr1 σ1∧Oz n fr1 ps∧Is (AbD E (HI lz m) n us vs l ts (fr1,σ1)) fr' σ')
 {y:Code} (hk:Run E m y ⟨Am n fr',σ'⟩ K):Run E m (.seq (.region id l.toArray true) y) ⟨Am n fr,σ⟩ K :=
 Fp (Sf hE hP T hok1 us vs hok3 ps xs ps' ts hok2 EZ h hk)
section
variable {ts:List Nat}{k:Nat}{r:List AV}
theorem Xj{α:Type}{c:α→AV}(h:∀x,Ku ts k (c x)=c x):∀{l:List α},List.map (Ku ts k) (C1 c l++r)=C1 c l++List.map (Ku ts k) r:=by
 intro l
 rw[List.map_append]
 congr 1
 unfold C1
 rw[List.map_map]
 exact List.map_congr_left fun x _=>h x
end
inductive SepZ(E:Env)(orc:Option Tmp→Orc)(ops:Array Oper)(x y:Oper)(frF:List AV):Prop
  |old (h:Sep E orc ops x y frF)
  |appY (p a q d:Nat) (hp:K1 x.op=some p) (ha:FW (ev frF (.tmp p))=some a) (hq:Acj y.op=some q) (hw:La (ev frF (.tmp q)) d) (hne:a≠d)
end Go.Rv
