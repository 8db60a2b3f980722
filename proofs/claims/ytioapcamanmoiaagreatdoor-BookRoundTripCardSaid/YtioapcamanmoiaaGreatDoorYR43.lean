/-
  Part 43.
-/
import Derived.Test.YtioapcamanmoiaaGreatDoorYR42
namespace Go.Rv
open Go.RowKit
set_option linter.unusedVariables false
set_option linter.unusedSimpArgs false
variable{ops:Array Oper}{T:List (List Nat)}{rem:List Nat}{listed:Array Bool}{orc:Option Tmp→Orc}{n:Nat}{l:List Oper}{σ σ':Ab}
variable {E:Env}
theorem Kp(hc:E7 ops T=true)(hs:listed.size=ops.size)(hl:∀j,listed.getD j true=false↔j∈rem)(i:Nat) :i∈Region.ready .any ops listed↔i∈rem∧∀d∈CS ops i,d ∉ rem:=by
 have hin:∀j∈rem,j<ops.size:=by
  intro j hj;have:=(hl j).2 hj;by_cases e:j<listed.size
  ·omega
  ·simp[Array.getD,e]at this
 have hgd:∀d,d<ops.size→(listed.getD d false=true↔d ∉ rem):=by
  intro d hd
  have h1:listed.getD d false=listed.getD d true:=by
   have:d<listed.size:=by omega
   simp[Array.getD,this]
  rw[h1,←hl d];cases listed.getD d true<;>simp
 rw[mem_ready,hl i];constructor
 ·rintro⟨h1,o,ho,h2⟩;refine⟨h1,fun d hd=>?_⟩;have hlt:=Cj hc (hin i h1) hd;have hds:=Aqh hlt (hin i h1);obtain⟨e,he,hb,rfl⟩:=(CV ho).1 hd;exact(hgd _ hds).1 (h2 e he hb)
 ·rintro⟨h1,h2⟩;have hi:=hin i h1;refine⟨h1,ops[i],Ao1 hi,fun e he hb=>?_⟩;have hd:e.on∈CS ops i:=(CV (Ao1 hi)).2 ⟨e,he,hb,rfl⟩;exact(hgd _ (Aqh (Cj hc hi hd) hi)).2 (h2 _ hd)
theorem Q5(hs:listed.size=ops.size)(hl:∀j,listed.getD j true=false↔j∈rem):∀j∈rem,j<ops.size:=by
 intro j hj;have:=(hl j).2 hj;by_cases e:j<listed.size
 ·omega
 ·simp[Array.getD,e]at this
theorem PE(hc:E7 ops T=true)(hp:rem.Pairwise (·<·))(hs:listed.size=ops.size)(hl:∀j,listed.getD j true=false↔j∈rem)(hr:Region.ready .any ops listed=[]):rem=[]:=by
  cases rem with
  |nil=>rfl
  | cons i r=>
    have hi:i∈Region.ready .any ops listed:=(Kp hc hs hl i).2 ⟨Ao2,fun d hd hm=>by
      have:=Cj hc (Q5 hs hl i Ao2) hd;rcases Ao9.1 hm with rfl|hm
      · omega
      · have:=Apc hp hm
        omega⟩
    rw[hr]at hi;cases hi
theorem OK(hE:E.Ok){orc:Option Tmp→Orc}(hO:HU E.toBase orc){ops:Array Oper}{T:List (List Nat)}(hc:E7 ops T=true){n0 n1 k2:Nat}(hn1:n1+k2=ops.size)(hT:∀i,n0≤i→i<ops.size→∀j,j<i→j<n1→j∈T.getD i []){m n:Nat}{fr':Fr}{σ':Ab}{Q:Exit→Act→World→Prop} :∀ (k i0:Nat) (l:List Oper) (listed:Array Bool) (fr:Fr) (σ:Ab) (a:Act) (w:World) (g:Gh),i0+k=n1→l.length=k→(∃r,ops.toList.drop i0=l++r)→n0≤i0→listed.size=ops.size→(∀j,listed.getD j true=false↔j∈List.range' i0 (k+k2)) →Bp E orc false n ops l (fr,σ)=some (fr',σ')→Rel E w g ⟨Aq n fr,σ⟩ a→(∀a' w' g' listed',Rel E w' g' ⟨Aq n fr',σ'⟩ a'→Evo E m w g w' g'→listed'.size=ops.size→(∀j,listed'.getD j true=false↔j∈List.range' n1 k2)→wpAny E.P .any ops Q k2 listed' a' w')→wpAny E.P .any ops Q (k+k2) listed a w
  | 0,i0,l,listed,fr,σ,a,w,g,hk,hll,hdl,hn0,hs,hl,hst,hr,hq=>by
    have:l=[]:=Ao6.1 hll;subst this;simp only[Bp,AoM,AoV]at hst;obtain⟨rfl,rfl⟩:=hst;have:i0=n1:=by omega
    subst this;rw[ApG]at hl ⊢;exact hq a w g listed hr (Evo.refl _ _ _ _) hs hl
  |k+1,i0,[],listed,fr,σ,a,w,g,hk,hll,hdl,hn0,hs,hl,hst,hr,hq=>by simp at hll
  | k + 1,i0,o::l,listed,fr,σ,a,w,g,hk,hll,hdl,hn0,hs,hl,hst,hr,hq=>by
    simp only[Bp,AoW]at hst;obtain⟨⟨fr1,σ1⟩,h1,h2⟩:=hst
    have hio:ops[i0]?=some o:=by
      obtain⟨r,hdl⟩:=hdl;have:(ops.toList.drop i0)[0]?=some o:=by rw[hdl];rfl
      rw[Aph]at this;simpa using this
    have hdl':∃r,ops.toList.drop (i0+1)=l++r:=by
      obtain⟨r,hdl⟩:=hdl;exact⟨r,by rw[←Ar6,hdl];rfl⟩
    rw[show k+1+k2=(k+k2)+1 by omega]at hl ⊢;refine⟨fun h=>?_,fun i hi=>?_⟩
    · have:=PE hc (List.pairwise_lt_range' (s:=i0) (n:=k+k2+1)) hs hl h
      simp[Arj]at this
    · obtain⟨hir,hid⟩:=(Kp hc hs hl i).1 hi
      have hin:=Q5 hs hl i hir
      have hd:∀k',k'<ops.size→k' ∉ List.range' i0 (k+k2+1)→∀d∈CS ops k',d ∉ List.range' i0 (k+k2+1):=by
        intro k' hk' hkn d hdk hdm;have:=Cj hc hk' hdk;rw[Ap2]at hkn hdm;omega
      have hei:i=i0:=by
        by_cases e:i=i0
        · exact e
        · have h3:i0<i:=by rw[Ap2]at hir;omega
          exact(D0 hc hd i hin hid i0 (hT i (by omega) hin i0 h3 (by omega)) (by rw[Ap2];omega)).elim
      subst hei;refine VT (m:=m) hE hO hio h1 hr fun a1 w1 g1 hr1 he1=>?_
      refine OK hE hO hc hn1 hT k (i+1) l _ fr1 σ1 a1 w1 g1 (by omega) (by simpa using hll) hdl' (by omega) (by simp[hs]) ?_ h2 hr1 fun a2 w2 g2 li2 hr2 he2 hs2 hl2=>hq a2 w2 g2 li2 hr2 (he1.trans he2) hs2 hl2
      intro j;by_cases e:j=i
      · subst e
        have:j<listed.size:=by omega
        simp[Array.getD,this,Ap2];omega
      · rw[getD_set_ne true (fun h=>e h.symm),hl j]
        simp only[Ap2];omega
theorem Lz(hE:E.Ok)(hO:∀d,LW E.toBase (orc d))(hc:E7 ops T=true){n0 kk:Nat}(hn:n0+kk=ops.size)(hT:∀i,n0≤i→i<ops.size→∀j,j<n0→j∈T.getD i []){st':St}(lo:Nat)(hfront:∀(i:Nat) (his:i<ops.size) (l1 l2:List Nat) (st:St),(∀k∈l1++i::l2,lo≤k)→(l1++i::l2).Pairwise (·<·)→(∀j∈l1,j ∉ T.getD i [])→AY E orc ops (l1++i::l2) st=some st' →∃st1,BU E orc ops ops[i] st=some st1∧AY E orc ops (l1++l2) st1=some st') {Q:Exit→Act→World→Prop} :∀ (fuel:Nat) (rem:List Nat) (listed:Array Bool) (st:St) (a:Act) (w:World) (g:Gh),(∀k∈rem,lo≤k)→rem.length=fuel→(rem++List.range' n0 kk).Pairwise (·<·)→listed.size=ops.size →(∀j,listed.getD j true=false↔j∈rem++List.range' n0 kk)→(∀k,k<ops.size→k ∉ rem++List.range' n0 kk→∀d∈CS ops k,d ∉ rem++List.range' n0 kk) →AY E orc ops rem st=some st'→Rel E w g st a→(∀a' w' g' listed',Rel E w' g' st' a'→Evo E 0 w g w' g'→GLe g g'→listed'.size=ops.size→(∀j,listed'.getD j true=false↔j∈List.range' n0 kk)→wpAny E.P .any ops Q kk listed' a' w') →wpAny E.P .any ops Q (fuel+kk) listed a w:=by
  intro fuel
  induction fuel with
  | zero=>
    intro rem listed st a w g hlo hf hp hs hl hd hst hr hq;have:rem=[]:=Ao6.1 hf;subst this;simp only[AY,AoM]at hst;subst hst;rw[ApG];exact hq a w g listed hr (Evo.refl _ _ _ _) (GLe.refl _) hs (by simpa using hl)
  | succ fuel ih=>
    intro rem listed st a w g hlo hf hp hs hl hd hst hr hq;rw[show fuel+1+kk=(fuel+kk)+1 by omega];refine⟨fun h=>?_,fun i hi=>?_⟩
    · have:=PE hc hp hs hl h
      have h7:=(List.append_eq_nil_iff.1 this).1;subst h7;simp at hf
    · obtain⟨hir0,hid⟩:=(Kp hc hs hl i).1 hi
      have his:=Q5 hs hl i hir0
      have hlt0:∀j∈rem,j<n0∨kk=0:=by
        intro j hj;by_cases e:kk=0
        · exact .inr e
        · exact .inl ((Apl.1 hp).2.2 j hj n0 (by rw[Ap2];omega))
      have hir:i∈rem:=by
        rcases Ao8.1 hir0 with h|h
        · exact h
        rw[Ap2]at h
        obtain⟨j,hj⟩:∃j,j∈rem:=by
          cases rem with
          |nil=>simp at hf
          |cons j r=>exact⟨j,Ao2⟩
        have h5:=hlt0 j hj;exact(D0 hc hd i his hid j (hT i h.1 his j (by omega)) (ApU _ hj)).elim
      obtain⟨l1,l2,rfl⟩:=AqU hir;have hp0:=(Apl.1 hp).1;have hp':=hp0;rw[Apl]at hp';obtain⟨p1,p2,p3⟩:=hp';have hin0:i<n0∨kk=0:=hlt0 i hir
      have hnd:∀j∈l1++l2,j≠i:=by
        intro j hj;rcases Ao8.1 hj with hj|hj
        · have:=p3 j hj i Ao2;omega
        · have:=Apc p2 hj;omega
      have hmem:∀j,j∈(l1++l2)++List.range' n0 kk↔j∈(l1++i::l2)++List.range' n0 kk∧j≠i:=by
        intro j;constructor
        · intro hj
          rcases Ao8.1 hj with hj|hj
          · refine⟨?_,hnd j hj⟩
            simp only[Ao8,Ao9]at hj ⊢;rcases hj with hj|hj
            · exact .inl (.inl hj)
            · exact .inl (.inr (.inr hj))
          · refine⟨List.mem_append_right _ hj,?_⟩
            rw[Ap2]at hj;omega
        · rintro⟨hj,hne⟩
          simp only[Ao8,Ao9]at hj ⊢;rcases hj with(hj|hj|hj)|hj
          · exact .inl (.inl hj)
          · exact(hne hj).elim
          · exact .inl (.inr hj)
          · exact .inr hj
      obtain⟨st1,h1,h2⟩:=hfront i his l1 l2 st hlo hp0 (fun j hj hT=>D0 hc hd i his hid j hT (ApU _ (ApU _ hj))) hst;refine JU hE hO (Ao1 his) h1 hr fun a1 w1 g1 hr1 he1 hg1=>?_
      refine ih (l1++l2) (listed.setIfInBounds i true) st1 a1 w1 g1 (fun k hk=>hlo k (by simp only[Ao8,Ao9]at hk ⊢;rcases hk with hk|hk;exact .inl hk;exact .inr (.inr hk))) ?_ ?_ ?_ ?_ ?_ h2 hr1 ?_
      · simp at hf ⊢;omega
      · exact hp.sublist (Aq0 (Aqr (Aqz i l2) l1) _)
      · simp[hs]
      · intro j
        rw[hmem j,←hl j];by_cases e:j=i
        · subst e
          have:j<listed.size:=by omega
          simp[Array.getD,this]
        · rw[getD_set_ne true (fun h=>e h.symm)]
          simp[e]
      · intro k hk hkn d hdk hdm
        have hd2:=((hmem d).1 hdm).1;by_cases e:k=i
        · subst e
          exact hid d hdk hd2
        · exact hd k hk (fun h=>hkn ((hmem k).2 ⟨h,e⟩)) d hdk hd2
      · intro a' w' g' listed' hr' he' hg'
        exact hq a' w' g' listed' hr' (he1.trans he') (hg1.trans hg')
def NA:List Unit→List Oper→List Oper
 |[],_=>[]
 |_::_,[]=>[]
 |_::us,x::l=>x::NA us l
def Ir:List Unit→List Oper→List Oper
 |[],l=>l
 |_::_,[]=>[]
 |_::us,_::l=>Ir us l
attribute [go_sem] NA Ir
theorem QK:∀(us:List Unit) (l:List Oper),NA us l=l.take us.length
 |[],l=>by simp[NA]
 |_::us,[]=>by simp[NA]
 |_::us,x::l=>by simp[NA,QK us l]
theorem Me:∀(us:List Unit) (l:List Oper),Ir us l=l.drop us.length
 |[],l=>by simp[Ir]
 |_::us,[]=>by simp[Ir]
 |_::us,x::l=>by simp[Ir,Me us l]
def Vv(E:Env)(ops:Array Oper)(n0 n1:Nat)(T:List (List Nat)):Bool:=decide (n0≤n1)&&decide (n1≤ops.size)&&(List.range ops.size).all fun i=>decide (i<n0)||(List.range i).all fun j=>(T.getD i []).contains j||(decide (n1≤j)&&(match ops[j]?,ops[i]? with
  |some x,some y=>Ji E ops x y
  |_,_=>false))
def AkT(E:Env)(orc:Option Tmp→Orc)(n:Nat)(us:List Unit)(l:List Oper)(s:Fr×Ab):Option (Fr×Ab):=Bp E orc true n l.toArray (NA us l) s
def AiT(E:Env)(orc:Option Tmp→Orc)(n:Nat)(us vs:List Unit)(l:List Oper)(ts:List Nat)(s:Fr×Ab):Option (Fr×Ab):=(Bp E orc false n l.toArray (NA vs (Ir us l)) s).bind fun r=>(Bp E orc true n l.toArray (Ir vs (Ir us l)) r).bind fun r=>some (keep ts r.1,r.2)
theorem Agz{us:List Unit}{s:Fr×Ab}:AkT E orc n us l s=HT E orc true n l.toArray (NA us l) (some s):=by
 rw[Dv];rfl
theorem AfJ{us vs:List Unit}{ts:List Nat}{s:Fr×Ab}:AiT E orc n us vs l ts s=Aex ts (HT E orc true n l.toArray (Ir vs (Ir us l)) (HT E orc false n l.toArray (NA vs (Ir us l)) (some s))):=by
  rw[Dv];unfold AiT;cases Bp E orc false n l.toArray (NA vs (Ir us l)) s with
  |none=>rw[H3];rfl
  | some r=>
    rw[Dv];unfold Aex;show(Bp E orc true n l.toArray (Ir vs (Ir us l)) r).bind _=_;cases Bp E orc true n l.toArray (Ir vs (Ir us l)) r<;>rfl
attribute [go_sem] Agz AfJ
theorem XG(hE:E.Ok)(hP:E.P.follows .mixedOrders=true){m id:Nat}(T:List (List Nat))(hok1:E7 l.toArray T=true)(us vs:List Unit)(hok3:Vv E l.toArray us.length (us.length+vs.length) T=true)(ps xs:List (Nat×Nat))(ps' ts:List Nat)(hok2:YP E l.toArray T ps xs ps'=true){fr fr':Fr}{K:Cl}(hw:R5 E m K) (h:∃lz m,HU E.toBase (JR lz m)∧XOk m xs∧∃fr1 σ1,Is (AkT E (JR lz m) n us l (fr,σ)) fr1 σ1∧WW n fr1 ps∧Is (AiT E (JR lz m) n us vs l ts (fr1,σ1)) fr' σ') (hk:K .normal ⟨Aq n fr',σ'⟩):Run E m (.region id l.toArray true) ⟨Aq n fr,σ⟩ K:=by
 obtain⟨lz,mz,hO,hX,fr1,σ1,h1,hps,h2⟩:=h;simp only[Is,AiT,AoW,AoM,AoV]at h2;obtain⟨⟨fr2,σ2⟩,h2,⟨fr3,σ3⟩,h3,rfl,rfl⟩:=h2;generalize hn0:us.length=n0 at *;generalize hk1:vs.length=k1 at *;have h1':Bp E (JR lz mz) true n l.toArray (l.take n0) (fr,σ)=some (fr1,σ1):=by rw[←hn0,←QK];exact h1
 have h2':Bp E (JR lz mz) false n l.toArray ((l.drop n0).take k1) (fr1,σ1)=some (fr2,σ2):=by rw[←hn0,←hk1,←Me,←QK];exact h2
 have h3':Bp E (JR lz mz) true n l.toArray (l.drop (n0+k1)) (fr2,σ2)=some (fr3,σ3):=by rw[←List.drop_drop,←hn0,←hk1,←Me,←Me];exact h3
 simp only[Vv,Apb,Apj,ArK]at hok3;obtain⟨⟨_,hle1⟩,hch⟩:=hok3;have hle:n0≤l.length:=by omega
 have hlt:(l.take n0).length=n0:=by rw[ArP];omega
 have hT0:∀i,n0≤i→i<l.toArray.size→∀j,j<i→j∈T.getD i []∨(n0+k1≤j∧∃x y,l.toArray[j]?=some x∧l.toArray[i]?=some y∧Ji E l.toArray x y=true):=by
  intro i hi his j hj;have h3:=A5 hch (by simpa using his);simp only[Apu,Apj]at h3;rcases h3 with h3|h3
  ·omega
  ·have h4:=A5 h3 hj;simp only[Apu,Apb,Apj,Apf]at h4;rcases h4 with h4|⟨h4,h5⟩
   ·exact .inl h4
   ·refine .inr ⟨h4,?_⟩;split at h5
    ·rename_i x y e1 e2;exact⟨x,y,e1,e2,h5⟩
    ·cases h5
 have hT:∀i,n0≤i→i<l.toArray.size→∀j,j<i→j<n0+k1→j∈T.getD i []:=by
  intro i hi his j hj hjn;rcases hT0 i hi his j hj with h|⟨h,_⟩
  ·exact h
  ·omega
 have hTp:∀i,n0≤i→i<l.toArray.size→∀j,j<n0→j∈T.getD i []:=fun i hi his j hj=>hT i hi his j (by omega) (by omega)
 have hsteps3:=Gx (E:=E) (ops:=l.toArray) (n0+k1) (l.drop (n0+k1)) fr2 fr3 σ2 σ3 ⟨[],by simp⟩ h3';rw[show(l.drop (n0+k1)).length=l.length-(n0+k1) by simp]at hsteps3;have hsteps:=Gx (E:=E) (ops:=l.toArray) 0 (l.take n0) fr fr1 σ σ1 ⟨l.drop n0,by simp⟩ h1';rw[←ApD,hlt]at hsteps;intro hcm ac w g hr Q hq;refine IU (JE hcm) (wp_region_any hP ?_);have hsm:SameMem w { w with drawn:=w.drawn+1 }:=⟨rfl,rfl,rfl,rfl⟩
 have hval:∀t a,ps'.contains t=true→VO ps t=some a→HW (ev (Aq n fr1) (.tmp t))=some a:=by
  intro t a ht ha;have:=QC hps ha;rw[DI];exact this
 have hsz:n0+(l.length-n0)=l.toArray.size:=by simp;omega
 have hrg:List.range n0++List.range' n0 (l.length-n0)=List.range l.length:=by
  rw[ApD,ApD];have:=List.range'_append (s:=0) (m:=n0) (n:=l.length-n0) (step:=1);simp only[Apw,ApG]at this;rw[this,Nat.add_sub_cancel' hle]
 rw[←hsz];refine Lz hE hO hok1 hsz hTp (st':=⟨Aq n fr1,σ1⟩) 0 ?_ n0 (List.range n0) _ ⟨Aq n fr,σ⟩ ac _ g (fun _ _=>Apx _) (by simp) ?_ (by simp;omega) ?_ ?_ hsteps (IV hr hsm) ?_
 ·intro i his l1 l2 st _ hp hT hst;have hi:l.toArray[i]?=some l.toArray[i]:=Ao1 his;refine Ko hi l1 st (fun m1 j m2 e x hx=>?_) hst;have hj:j∈l1:=by rw[e];simp
  have hji:j<i:=by
   rw[Apl]at hp;exact hp.2.2 j hj i Ao2
  have h1':=A5 (A5 hok2 his) hji;simp only[Apu,Apf]at h1';rcases h1' with h1'|h1'
  ·exact(hT j hj h1').elim
  ·simp only[hx,hi,Apu,Apb]at h1';rcases h1' with h1'|⟨h1',h2'⟩
   ·exact .inl h1'
   ·refine .inr ⟨h1',fun st3 h3=>?_⟩;have hst3:∀t,(∀k∈((j::m2)++i::l2),∀o,l.toArray[k]?=some o→o.dst≠some t)→ev st3.fr (.tmp t)=ev (Aq n fr1) (.tmp t):=fun t hk=>(Gn _ _ _ hk h3).symm
    have hpw:((j::m2)++i::l2).Pairwise (·<·):=by
     rw[e,Ap8]at hp;exact(Apl.1 hp).2.1
    have hge:∀k∈((j::m2)++i::l2),j≤k:=by
     intro k hk;rw[Ao5]at hpw hk;rcases Ao9.1 hk with rfl|hk
     ·exact Ao0 _
     ·exact Nat.le_of_lt (Apc hpw hk)
    have hnT:∀k∈((j::m2)++i::l2),¬(k∈T.getD i []∧k<i):=by
     rintro k hk ⟨q1,q2⟩;rcases Ao8.1 hk with hk|hk
     ·exact hT k (by rw[e];simp only[Ao8];exact .inr hk) q1
     ·rcases Ao9.1 hk with rfl|hk
      ·omega
      ·have:=Apc (Apl.1 hpw).2.1 hk;omega
    have hstill:∀(ok:Nat→Bool) t,Gg l.toArray ps' ok t=true→(∀k∈((j::m2)++i::l2),ok k=false)→ps'.contains t=true∧ev st3.fr (.tmp t)=ev (Aq n fr1) (.tmp t):=by
     intro ok t h hno;simp only[Gg,Apb]at h;refine⟨h.1,hst3 t fun k hk o hko=>?_⟩;have h2:=A5 h.2 (AoY.1 hko).1;rw[hno k hk,hko]at h2;simpa using h2
    have hq0:∀q,Gg l.toArray ps' (fun k=>(T.getD i []).contains k&&decide (k<i)) q=true→ps'.contains q=true∧ev st3.fr (.tmp q)=ev (Aq n fr1) (.tmp q):=fun q s1=>hstill _ q s1 (fun k hk=>by
     have:=hnT k hk;simp only[Ap7,ApJ];by_cases hm:k∈T.getD i []
     ·exact .inr fun h=>this ⟨hm,h⟩
     ·exact .inl (by simpa using hm))
    rcases h2' with h2'|h2'
    case inr=>
     unfold Aks at h2';split at h2'
     case h_2=>cases h2'
     rename_i p t hp' ht';split at h2'
     case h_1=>cases h2'
     rename_i a ha;simp only[Apb,Apf]at h2';obtain⟨⟨s1,s2⟩,s3⟩:=h2'
     obtain⟨c1,c2⟩:=hstill _ p s1 (fun k hk=>by
      have:=hge k hk;simp only[ApJ];omega)
     exact .callY p a hp' (by rw[c2];exact hval p a c1 ha) fun σ σ1 v hv=>Kk s2 ht' hX s3 hv
    rcases h2' with h2'|h2'
    case inr=>
     unfold AkD at h2';split at h2'
     case h_2=>cases h2'
     rename_i p f hop;split at h2'
     case h_1=>cases h2'
     rename_i a ha;obtain⟨c1,c2⟩:=hq0 p h2';exact .fa _ p f a hop (by rw[c2];exact hval p a c1 ha)
    rcases h2' with h2'|h2'
    case inr=>
     unfold Aku at h2';split at h2'
     case h_2=>cases h2'
     rename_i p t hp' ht';split at h2'
     case h_1=>cases h2'
     rename_i a ha;simp only[Apb,Apf]at h2';obtain⟨⟨s1,s2⟩,s3⟩:=h2';obtain⟨c1,c2⟩:=hq0 p s1;exact .call p a hp' (by rw[c2];exact hval p a c1 ha) fun σ σ1 v hv=>Kk s2 ht' hX s3 hv
    unfold AkE at h2';split at h2'
    case h_1=>cases h2'
    rename_i q hq';split at h2'
    case h_1=>cases h2'
    rename_i b hb;simp only[Apb,Apu,AqJ]at h2';obtain⟨s1,h2'⟩:=h2';obtain⟨c1,c2⟩:=hq0 q s1;have hbq:HW (ev st3.fr (.tmp q))=some b:=by rw[c2];exact hval q b c1 hb
    rcases h2' with⟨h4,h5⟩|h4
    ·exact .build q b h4 h5 hq' hbq
    ·split at h4
     case h_1=>cases h4
     rename_i p hp';split at h4
     case h_1=>cases h4
     rename_i a ha;simp only[Apb,Ars]at h4
     obtain⟨c3,c4⟩:=hstill _ p h4.2 (fun k hk=>by
      have:=hge k hk;simp only[ApJ];omega)
     exact .look p q a b hp' hq' (by rw[c4];exact hval p a c3 ha) hbq h4.1
 ·rw[hrg];exact Aqk
 ·intro j;rw[hrg,Apz];by_cases h:j<l.length
  ·simp[Array.getD,h,hsz]
  ·simp[Array.getD,h,hsz]
 ·intro k hk hkn;rw[hrg]at hkn;exact(hkn (Apz.2 (by simpa using hk))).elim
 ·intro a1 w1 g1 listed' hr1 he1 hg1 hs' hl';have hk2:l.length-n0=k1+(l.length-(n0+k1)):=by omega
  rw[hk2]at hl' ⊢;refine OK (m:=m) hE hO hok1 (n0:=n0) (n1:=n0+k1) (by simp;omega) hT k1 n0 ((l.drop n0).take k1) listed' fr1 σ1 a1 w1 g1 rfl (by simp;omega) ⟨l.drop (n0+k1),by rw[←List.drop_drop];exact(AqD k1 (l.drop n0)).symm⟩ (Ao0 _) hs' hl' h2' hr1 fun a2 w2 g2 li2 hr2 he2 hs2 hl2=>?_
  have h0:=Lz (kk:=0) (n0:=l.toArray.size) (Q:=fun ex st=>Q ex st) hE hO hok1 (by simp) (fun i hi his=>by omega) (st':=⟨Aq n fr3,σ3⟩) (n0+k1) ?_ (l.length-(n0+k1)) (List.range' (n0+k1) (l.length-(n0+k1))) li2 ⟨Aq n fr2,σ2⟩ a2 w2 g2 (fun k hk=>by rw[Ap2]at hk;exact hk.1) (by simp) (by simpa using List.pairwise_lt_range') hs2 (by simpa using hl2) ?_ hsteps3 hr2 ?_
  ·exact h0
  ·intro i his l1 l2 st hlo hp hTn hst;refine Fg (Ao1 his) l1 st (fun j hj x hx=>?_) hst
   have hji:j<i:=by
    rw[Apl]at hp;exact hp.2.2 j hj i Ao2
   have hil:=hlo i (by simp);rcases hT0 i (by omega) his j hji with h|⟨_,x',y',e1,e2,h⟩
   ·exact(hTn j hj h).elim
   ·rw[e1]at hx;cases hx;rw[Ao1 his]at e2;cases e2;exact h
  ·intro k' hk' hkn d hdk hdm;have:=Cj hok1 hk' hdk;simp only[List.range'_zero,Aqf]at hkn hdm;rw[Ap2]at hkn hdm;simp only[ArK]at hk';omega
  ·intro a3 w3 g3 li3 hr3 he3 hg3 hs3 hl3;refine⟨?_,?_⟩
   ·rw[Aqp];intro i hi;have:=((Kp hok1 hs3 hl3 i).1 hi).1;cases this
   exact hq _ _ _ _ _ (hw _ _ (En _ _ _ _ _) hk) hr3 ((((Evo.same hsm).trans (he1.of_gle hg1)).trans he2).trans (he3.of_gle hg3))
theorem Th(hE:E.Ok)(hP:E.P.follows .mixedOrders=true){m id:Nat}(T:List (List Nat))(hok1:E7 l.toArray T=true)(us vs:List Unit)(hok3:Vv E l.toArray us.length (us.length+vs.length) T=true)(ps xs:List (Nat×Nat))(ps' ts:List Nat)(hok2:YP E l.toArray T ps xs ps'=true){fr fr':Fr}{K:Cl} (h:∃lz m,HU E.toBase (JR lz m)∧XOk m xs∧∃fr1 σ1,Is (AkT E (JR lz m) n us l (fr,σ)) fr1 σ1∧WW n fr1 ps∧Is (AiT E (JR lz m) n us vs l ts (fr1,σ1)) fr' σ') {y:Code} (hk:Run E m y ⟨Aq n fr',σ'⟩ K):Run E m (.seq (.region id l.toArray true) y) ⟨Aq n fr,σ⟩ K :=
 Io (XG hE hP T hok1 us vs hok3 ps xs ps' ts hok2 Il h hk)
section
variable {ts:List Nat}{k:Nat}{r:List AV}
theorem Abq{α:Type}{c:α→AV}(h:∀x,LR ts k (c x)=c x):∀{l:List α},List.map (LR ts k) (C1 c l++r)=C1 c l++List.map (LR ts k) r:=by
 intro l;rw[Art];congr 1;unfold C1;rw[List.map_map];exact Ap6 fun x _=>h x
theorem Vp{l:List UInt8}:List.map (LR ts k) (C1 u8 l++r)=C1 u8 l++List.map (LR ts k) r:=Abq fun x=>by simp only[u8,LR,AV.closed]
theorem ZC{l:List UInt8}:List.map dn (C1 u8 l++r)=C1 u8 l++List.map dn r:=by
 rw[Art];congr 1;exact AmE u8 (fun _=>rfl) l
attribute [go_sem] Vp ZC
end
theorem T8{α:Type}{N:Nat}{l:Fr}(bid id:Nat){cr:α→List AV}{lg lg':List (List α)}{i:Int}{row:List α}{full:Bool}{k:Nat}{ro:Bool}(hi:InR i lg.length) (hB:σ[bid]?=some (.buf 1 ((L (cSl cr) lg).set i.toNat [.bs full id row.length 0 row.length]) false)) (hσ:σ[id]?=some (.buf k (L cr row) ro)) (hne:bid≠id) (hc:B6 (L cr row)=true) (hl:lg'=lg.set i.toNat row) (hs':(BP σ id).set bid (.buf 1 (L (cSl cr) lg') false)=σ'):Weak E n ⟨Aq N l,σ⟩ ⟨Aq N l,σ'⟩:=by
 have hlt:i.toNat<(L (cSl cr) lg).length:=by
  unfold L;rw[ApP];have h1:=hi.1;have h2:=hi.2;omega
 refine LQ bid i.toNat hB (ApA hlt) hσ (by simp[L]) hc hne ?_;rw[←hs',hl];congr 2;rw[List.set_set];unfold L cSl;rw[ArD];congr 2;simp only[ArG];rw[Aps (by simp)];rfl
inductive SepZ(E:Env)(orc:Option Tmp→Orc)(ops:Array Oper)(x y:Oper)(frF:List AV):Prop
  |old (h:Sep E orc ops x y frF)
  |appY (p a q d:Nat) (hp:OU x.op=some p) (ha:HW (ev frF (.tmp p))=some a) (hq:Akx y.op=some q) (hw:KU (ev frF (.tmp q)) d) (hne:a≠d)
theorem TY{x y:Oper}{st st1 st2:St}(hap:x.apart ops y=true)(hc:SepZ E orc ops x y st.fr) (h1:BU E orc ops x st=some st1) (h2:BU E orc ops y st1=some st2):∃st3,BU E orc ops y st=some st3∧BU E orc ops x st3=some st2:=by
  cases hc with
  |old h=>exact OM hap h h1 h2
  | appY p a q d hp ha hq hw hne=>
    obtain⟨a1,a2,a3⟩:=Oper.apart_spec hap;unfold BU at h1 h2 ⊢;rw[AoL]at h1 h2;obtain⟨⟨v,σ1⟩,hv,rfl⟩:=h1;obtain⟨⟨u,σ2⟩,hu,rfl⟩:=h2;simp only at hu ⊢;rw[B1 a1]at hu;obtain⟨rfl,_⟩:=Ec hp ha hv rfl;refine⟨⟨AM st.fr y.dst u,σ2⟩,by rw[hu];rfl,?_⟩;simp only;rw[B1 a3,(Ec hp ha hv (AcE hq hw hne hu)).2];simp only[App,Do st.fr v u a2]
def sepZ(ops:Array Oper)(T:List (List Nat))(ps ws:List (Nat×Nat))(ts:List Nat)(j i:Nat)(x y:Oper):Bool :=
 match OU x.op,Akx y.op with
 |some p,some q=>match VO ps p,VO ws q with
  |some a,some d=>a != d&&Gg ops ts (fun k=>decide (k<j)) p&&Gg ops ts (fun k=>(T.getD i []).contains k&&decide (k<i)) q
  |_,_=>false
 |_,_=>false
end Go.Rv
