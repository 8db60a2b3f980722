/-
  Part 40.
-/
import Derived.Test.YtioapcamanmoiaaGreatDoorYR39
namespace Go.Rv
open Go.RowKit
set_option linter.unusedVariables false
set_option linter.unusedSimpArgs false
variable {E:Env}
theorem VT(hE:E.Ok){orc:Option Tmp→Orc}(hO:HU E.toBase orc){m n i:Nat}{ops:Array Oper}{o:Oper}(hi:ops[i]?=some o){fr fr':Fr}{σ σ':Ab} (h1:Pf E orc false n ops o (fr,σ)=some (fr',σ')) {a:Act} {w:World} {g:Gh} (hr:Rel E w g ⟨Aq n fr,σ⟩ a) {next:Act→World→Prop} {Q:Exit→Act→World→Prop} (hk:∀a' w' g',Rel E w' g' ⟨Aq n fr',σ'⟩ a'→Evo E m w g w' g'→next a' w'):wpOp E.P ops Q i next a w:=by
  unfold Pf at h1;have efz:∀σ,Fh (false&&EI E ops o) σ=some:=fun σ=>by funext r;simp[Fh]
  rw[efz,Bt]at h1;obtain⟨g1,hr1,he1⟩:=Sc (s:=(fr,σ)) hr m false o.op;generalize hfz:H1 false n o.op (fr,σ)=s1 at h1 hr1
  have hgo:∀{v:AV} {σ2:Ab},opL E (orc o.dst) false (evL n s1.1) s1.2 o.op=some (v,σ2)→fr'=put o.dst v s1.1→σ'=σ2→o.wp E.P a w next Q:=by
    intro v σ2 e1 e2 e3;subst e2 e3;refine QB hE (hO _) e1 hr1 ?_;intro a' w' g' hr' he hg;exact hk a' w' g' hr' (he1.trans (he.of_gle hg))
  unfold wpOp;simp only[hi];cases hgd:o.guard with
  | none=>
    simp only[Pc,hgd,AoL,AoV]at h1;obtain⟨⟨v,σ2⟩,e1,e2,e3⟩:=h1;simp only[Region.wanted,hgd,Aqe];exact .inl (hgo e1 e2.symm e3.symm)
  | some jw=>
    obtain⟨j,want⟩:=jw;simp only[Pc,hgd]at h1;cases hy:Qj ops n fr j with
    |none=>simp[hy]at h1
    | some b=>
      simp only[hy,App]at h1;have hy':K0 ops (Aq n fr) j=some b:=by rw[JQ,hy]
      simp only[Region.wanted,hgd,Ih hr hy'];by_cases e:b=some want
      · rw[AoO (by simp[e])]
        rw[show(b==some want)=true by simp[e]]at h1;simp only[AoL,AoV]at h1;obtain⟨⟨v,σ2⟩,e1,e2,e3⟩:=h1;exact .inl (hgo e1 e2.symm e3.symm)
      · rw[AoQ (by simp[e])]
        rw[show(b==some want)=false by simp[e]]at h1;simp only[AoM,AoV]at h1;obtain⟨e2,e3⟩:=h1;subst e2 e3;refine hk _ w g ?_ (Evo.refl _ _ _ _);have:=EJ hr o.dst (O5 _ _ _);rw[Da]at this;exact this
theorem WQ(hE:E.Ok){orc:Option Tmp→Orc}(hO:∀d,LW E.toBase (orc d)){ops:Array Oper}{T:List (List Nat)}(hc:E7 ops T=true)(hm:GY E ops T=true){n0:Nat}(hn:ops.size=n0+1)(hT:∀j,j<n0→j∈T.getD n0 []){st':St}{Q:Exit→Act→World→Prop} :∀ (fuel:Nat) (rem:List Nat) (listed:Array Bool) (st:St) (a:Act) (w:World) (g:Gh),rem.length=fuel→(rem++[n0]).Pairwise (·<·)→listed.size=ops.size →(∀j,listed.getD j true=false↔j∈rem++[n0])→(∀k,k<ops.size→k ∉ rem++[n0]→∀d∈CS ops k,d ∉ rem++[n0]) →AY E orc ops rem st=some st'→Rel E w g st a→(∀a' w' g',Rel E w' g' st' a'→Evo E 0 w g w' g'→GLe g g'→∀next:Act→World→Prop,(∀a2 w2,Q .normal a2 w2→next a2 w2)→wpOp E.P ops Q n0 next a' w') →wpAny E.P .any ops Q (fuel+1) listed a w:=by
  have hin:∀(rem:List Nat) (listed:Array Bool),listed.size=ops.size→(∀j,listed.getD j true=false↔j∈rem)→∀j∈rem,j<ops.size:=by
    intro rem listed hs hl j hj;have:=(hl j).2 hj;by_cases e:j<listed.size
    · omega
    · simp[Array.getD,e]at this
  have hgd:∀(rem:List Nat) (listed:Array Bool),listed.size=ops.size→(∀j,listed.getD j true=false↔j∈rem)→∀d,d<ops.size→(listed.getD d false=true↔d ∉ rem):=by
    intro rem listed hs hl d hd
    have h1:listed.getD d false=listed.getD d true:=by
      have:d<listed.size:=by omega
      simp[Array.getD,this]
    rw[h1,←hl d];cases listed.getD d true<;>simp
  have hrd:∀(rem:List Nat) (listed:Array Bool),listed.size=ops.size→(∀j,listed.getD j true=false↔j∈rem)→∀i,
      (i∈Region.ready .any ops listed↔i∈rem∧∀d∈CS ops i,d ∉ rem):=by
    intro rem listed hs hl i;rw[mem_ready,hl i];constructor
    · rintro⟨h1,o,ho,h2⟩
      refine⟨h1,fun d hd=>?_⟩;have hlt:=Cj hc (hin rem listed hs hl i h1) hd;have hds:=Aqh hlt (hin rem listed hs hl i h1);obtain⟨e,he,hb,rfl⟩:=(CV ho).1 hd;exact(hgd rem listed hs hl _ hds).1 (h2 e he hb)
    · rintro⟨h1,h2⟩
      have hi:=hin rem listed hs hl i h1;refine⟨h1,ops[i],Ao1 hi,fun e he hb=>?_⟩;have hd:e.on∈CS ops i:=(CV (Ao1 hi)).2 ⟨e,he,hb,rfl⟩;exact(hgd rem listed hs hl _ (Aqh (Cj hc hi hd) hi)).2 (h2 _ hd)
  have hdone:∀(rem:List Nat) (listed:Array Bool),rem.Pairwise (·<·)→listed.size=ops.size→(∀j,listed.getD j true=false↔j∈rem)→Region.ready .any ops listed=[]→rem=[]:=by
    intro rem listed hp hs hl hr;cases rem with
    |nil=>rfl
    | cons i r=>
      have hi:i∈Region.ready .any ops listed:=(hrd _ listed hs hl i).2 ⟨Ao2,fun d hd hm=>by
        have:=Cj hc (hin _ listed hs hl i Ao2) hd;rcases Ao9.1 hm with rfl|hm
        · omega
        · have:=Apc hp hm
          omega⟩
      rw[hr]at hi;cases hi
  intro fuel
  induction fuel with
  | zero=>
    intro rem listed st a w g hf hp hs hl hd hst hr hq;have:rem=[]:=Ao6.1 hf;subst this;simp only[AY,AoM]at hst;subst hst;refine⟨fun h=>by have:=hdone _ listed hp hs hl h;simp at this,fun i hi=>?_⟩;obtain⟨hir,hid⟩:=(hrd _ listed hs hl i).1 hi;have:i=n0:=by simpa using hir
    subst this;refine hq a w g hr (Evo.refl _ _ _ _) (GLe.refl _) _ fun a2 w2 h2=>⟨?_,h2⟩
    rw[Aqp];intro k hk;rw[mem_ready]at hk;have h3:=hk.1;by_cases e:k=i
    · subst e
      have:k<listed.size:=by omega
      simp[Array.getD,this]at h3
    · rw[getD_set_ne true (fun h=>e h.symm),hl k]at h3
      simp at h3;exact e h3
  | succ fuel ih=>
    intro rem listed st a w g hf hp hs hl hd hst hr hq;refine⟨fun h=>by have:=hdone _ listed hp hs hl h;simp at this,fun i hi=>?_⟩;obtain⟨hir0,hid⟩:=(hrd _ listed hs hl i).1 hi;have his:=hin _ listed hs hl i hir0;have hlt0:∀j∈rem,j<n0:=fun j hj=>(Apl.1 hp).2.2 j hj n0 (by simp)
    have hir:i∈rem:=by
      rcases Ao8.1 hir0 with h|h
      · exact h
      have e:i=n0:=by simpa using h
      subst e
      obtain⟨j,hj⟩:∃j,j∈rem:=by
        cases rem with
        |nil=>simp at hf
        |cons j r=>exact⟨j,Ao2⟩
      exact(D0 hc hd i his hid j (hT j (hlt0 j hj)) (ApU _ hj)).elim
    obtain⟨l1,l2,rfl⟩:=AqU hir;have hp':=(Apl.1 hp).1;rw[Apl]at hp';obtain⟨p1,p2,p3⟩:=hp';have hin0:i≠n0:=by have:=hlt0 i hir;omega
    have hnd:∀j∈l1++l2,j≠i:=by
      intro j hj;rcases Ao8.1 hj with hj|hj
      · have:=p3 j hj i Ao2;omega
      · have:=Apc p2 hj;omega
    have hmem:∀j,j∈(l1++l2)++[n0]↔j∈(l1++i::l2)++[n0]∧j≠i:=by
      intro j;constructor
      · intro hj
        rcases Ao8.1 hj with hj|hj
        · refine⟨?_,hnd j hj⟩
          simp only[Ao8,Ao9]at hj ⊢;rcases hj with hj|hj
          · exact .inl (.inl hj)
          · exact .inl (.inr (.inr hj))
        · have:j=n0:=by simpa using hj
          subst this;exact⟨by simp,fun h=>hin0 h.symm⟩
      · rintro⟨hj,hne⟩
        simp only[Ao8,Ao9]at hj ⊢;rcases hj with(hj|hj|hj)|hj
        · exact .inl (.inl hj)
        · exact(hne hj).elim
        · exact .inl (.inr hj)
        · exact .inr hj
    have hcm:∀j∈l1,∀x,ops[j]?=some x→Ji E ops x ops[i]=true:=by
      intro j hj x hx;have hji:j<i:=p3 j hj i Ao2;have h1:=A5 (A5 hm his) hji;simp only[Apu,Apf]at h1;rcases h1 with h1|h1
      · exact(D0 hc hd i his hid j h1 (ApU _ (ApU _ hj))).elim
      · simp only[hx,Ao1 his]at h1
        exact h1
    obtain⟨st1,h1,h2⟩:=Fg (Ao1 his) l1 st hcm hst;refine JU hE hO (Ao1 his) h1 hr fun a1 w1 g1 hr1 he1 hg1=>?_
    refine ih (l1++l2) (listed.setIfInBounds i true) st1 a1 w1 g1 ?_ ?_ ?_ ?_ ?_ h2 hr1 ?_
    · simp at hf ⊢;omega
    · exact hp.sublist (Aq0 (Aqr (Aqz i l2) l1) _)
    · simp[hs]
    · intro j
      rw[hmem j,←hl j];by_cases e:j=i
      · subst e
        have:j<listed.size:=by omega
        simp[Array.getD,this]
      · rw[getD_set_ne true (fun h=>e h.symm)]
        simp[e]
    · intro k hk hkn d hdk hdm
      have hd2:=((hmem d).1 hdm).1;by_cases e:k=i
      · subst e
        exact hid d hdk hd2
      · exact hd k hk (fun h=>hkn ((hmem k).2 ⟨h,e⟩)) d hdk hd2
    · intro a' w' g' hr' he' hg'
      exact hq a' w' g' hr' (he1.trans he') (hg1.trans hg')
def OS:List Oper→List Oper
 |[]=>[]
 |[_]=>[]
 |x::y::l=>x::OS (y::l)
def SZ:List Oper→List Oper
 |[]=>[]
 |[x]=>[x]
 |_::y::l=>SZ (y::l)
attribute [go_sem] OS SZ
theorem RL:∀(x:Oper) (l:List Oper),∃o,SZ (x::l)=[o]∧x::l=OS (x::l)++[o]
  |x,[]=>⟨x,rfl,rfl⟩
  | x,y::l=>by
    obtain⟨o,h1,h2⟩:=RL y l;exact⟨o,h1,by rw[OS,Ao5,←h2]⟩
def RE(l:List Oper)(T:List (List Nat)):Bool:=(!l.isEmpty)&&(List.range (l.length-1)).all fun j=>(T.getD (l.length-1) []).contains j
def Ajb(E:Env)(orc:Option Tmp→Orc)(n:Nat)(l:List Oper)(ts:List Nat)(s:Fr×Ab):Option (Fr×Ab) :=
 (Bp E orc true n l.toArray (OS l) s).bind fun r=>(Bp E orc false n l.toArray (SZ l) r).bind fun r=>some (keep ts r.1,r.2)
theorem AfT{orc:Option Tmp→Orc}{n:Nat}{l:List Oper}{ts:List Nat}{s:Fr×Ab}:Ajb E orc n l ts s=Aex ts (HT E orc false n l.toArray (SZ l) (HT E orc true n l.toArray (OS l) (some s))):=by
  rw[Dv];unfold Ajb;cases Bp E orc true n l.toArray (OS l) s with
  |none=>rw[H3];rfl
  | some r=>
    rw[Dv];unfold Aex;show(Bp E orc false n l.toArray (SZ l) r).bind _=_;cases Bp E orc false n l.toArray (SZ l) r<;>rfl
attribute [go_sem] AfT
theorem Gx{orc:Option Tmp→Orc}{n:Nat}{ops:Array Oper}:∀(k:Nat) (l:List Oper) (fr fr':Fr) (σ σ':Ab),(∃r,ops.toList.drop k=l++r) →Bp E orc true n ops l (fr,σ)=some (fr',σ')→AY E orc ops (List.range' k l.length) ⟨Aq n fr,σ⟩=some ⟨Aq n fr',σ'⟩
  | k,[],fr,fr',σ,σ',hl,h=>by
    simp only[Bp,AoM,AoV]at h;obtain⟨rfl,rfl⟩:=h;rfl
  | k,o::l,fr,fr',σ,σ',⟨r,hl⟩,h=>by
    simp only[Bp,AoW]at h;obtain⟨⟨fr1,σ1⟩,h1,h2⟩:=h
    have hk:ops[k]?=some o:=by
      have:(ops.toList.drop k)[0]?=some o:=by rw[hl];rfl
      rw[Aph]at this;simpa using this
    have hl':ops.toList.drop (k+1)=l++r:=by
      rw[←Ar6,hl];rfl
    show AY E orc ops (k::List.range' (k+1) l.length) _=_;unfold AY;simp only[hk,KL h1,AoP];exact Gx (k+1) l _ _ _ _ ⟨r,hl'⟩ h2
theorem UF(hE:E.Ok){orc:Option Tmp→Orc}(hO:HU E.toBase orc)(hP:E.P.follows .mixedOrders=true){m n id:Nat}{l:List Oper}(T:List (List Nat))(hok1:E7 l.toArray T=true)(hok2:GY E l.toArray T=true)(hok3:RE l T=true) {fr fr1 fr':Fr} {σ σ1 σ':Ab} {K:Cl} (h1:Bp E orc true n l.toArray (OS l) (fr,σ)=some (fr1,σ1)) (h2:Bp E orc false n l.toArray (SZ l) (fr1,σ1)=some (fr',σ')) (hk:K .normal ⟨Aq n fr',σ'⟩) :Run E m (.region id l.toArray true) ⟨Aq n fr,σ⟩ K:=by
 cases l with
 |nil=>simp[RE]at hok3
 |cons x l=>
 obtain⟨o,ho,hl⟩:=RL x l;generalize hn0:(OS (x::l)).length=n0 at *;have hlen:(x::l).length=n0+1:=by rw[hl,Ao7,hn0];rfl
 have hoi:(x::l).toArray[n0]?=some o:=by
  rw[List.getElem?_toArray,hl,AoS (by omega)];simp[hn0]
 have hT:∀j,j<n0→j∈T.getD n0 []:=by
  intro j hj;simp only[RE,Apb,hlen,Arz]at hok3;exact Apf.1 (A5 hok3.2 hj)
 have hst:=Gx (E:=E) (ops:=(x::l).toArray) 0 (OS (x::l)) fr fr1 σ σ1 ⟨[o],by simpa using hl⟩ h1;rw[←ApD,hn0]at hst;rw[ho]at h2;simp only[Bp,AoW]at h2;obtain⟨s2,h2,h3⟩:=h2;cases h3;intro hcm a w g hr Q hq;refine IU (JE hcm) (wp_region_any hP ?_);have hsm:SameMem w { w with drawn:=w.drawn+1 }:=⟨rfl,rfl,rfl,rfl⟩;have hsz:(x::l).toArray.size=n0+1:=by simpa using hlen
 rw[hsz];refine WQ hE hO hok1 hok2 hsz hT n0 (List.range n0) _ ⟨Aq n fr,σ⟩ a _ g (by simp) ?_ (by simp[hsz]) ?_ ?_ hst (IV hr hsm) ?_
 ·rw[←Arw];exact Aqk
 ·intro j;rw[←Arw,Apz];by_cases h:j<n0+1<;>simp[Array.getD,h]
 ·intro k hk hkn;rw[←Arw]at hkn;exact(hkn (Apz.2 (by omega))).elim
 ·intro a1 w1 g1 hr1 he1 hg1 next hnext
  refine VT (m:=m) hE hO hoi h2 hr1 fun a2 w2 g2 hr2 he2=>hnext _ _ ?_
  exact hq _ _ _ _ _ hk hr2 ((((Evo.same hsm).trans (he1.of_gle hg1))).trans he2)
theorem Ab8(hE:E.Ok){orc:Option Tmp→Orc}(hO:HU E.toBase orc)(hP:E.P.follows .mixedOrders=true){m n id:Nat}{l:List Oper}(T:List (List Nat))(hok1:E7 l.toArray T=true)(hok2:GY E l.toArray T=true)(hok3:RE l T=true){fr fr':Fr}{σ σ':Ab}{K:Cl}(ts:List Nat) (h:Ajb E orc n l ts (fr,σ)=some (fr',σ')) {y:Code} (hk:Run E m y ⟨Aq n fr',σ'⟩ K):Run E m (.seq (.region id l.toArray true) y) ⟨Aq n fr,σ⟩ K:=by
 simp only[Ajb,AoW,AoM,AoV]at h;obtain⟨⟨fr1,σ1⟩,h1,⟨fr2,σ2⟩,h2,rfl,rfl⟩:=h;exact Io (UF hE hO hP T hok1 hok2 hok3 h1 h2 (DS (En _ _ _ _ _) hk))
section
variable {P:Prop}{N id:Nat}{l:List Oper}{fr fr':Fr}{σ σ':Ab}{y:Code}{orc:Option Tmp→Orc}{m:Nat}{K:Cl}
theorem Dq(T:List (List Nat))(ts:List Nat)(o:HU E.toBase orc)(e:Is (Ajb E orc N l ts (fr,σ)) fr' σ')(k:P→Run E m y ⟨Aq N fr',σ'⟩ K)(hP:E.P.follows .mixedOrders=true:=by exact KE)(h1:E7 l.toArray T=true:=by kernel_rfl)(h2:GY E l.toArray T=true:=by kernel_rfl)(h3:RE l T=true:=by kernel_rfl)(hE:E.Ok:=by assumption):P→Run E m (.seq (.region id l.toArray true) y) ⟨Aq N fr,σ⟩ K:=fun p=>Ab8 hE o hP T h1 h2 h3 ts e (k p)
end
end Go.Rv
