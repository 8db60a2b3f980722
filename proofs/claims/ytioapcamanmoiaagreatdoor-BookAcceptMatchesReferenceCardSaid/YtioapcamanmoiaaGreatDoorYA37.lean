/-
  Part 37.
-/
import Derived.Test.YtioapcamanmoiaaGreatDoorYA36
namespace Go.Rv
open Go.RowKit
variable {E:Env}
theorem Z7(hE:E.Ok){orc:Option Tmp→Orc}(hO:KK E.toBase orc){m n i:Nat}{ops:Array Oper}{o:Oper}(hi:ops[i]?=some o){fr fr':Fr}{σ σ':Ad} (h1:QX E orc false n ops o (fr,σ)=some (fr',σ')) {a:Act} {w:World} {g:Gh} (hr:Rel E w g ⟨Ao n fr,σ⟩ a) {next:Act→World→Prop} {Q:Exit→Act→World→Prop} (hk:∀a' w' g',Rel E w' g' ⟨Ao n fr',σ'⟩ a'→Evo E m w g w' g'→next a' w'):wpOp E.P ops Q i next a w:=by
  unfold QX at h1;have efz:∀σ,G8 (false&&FX E ops o) σ=some:=fun σ=>by funext r;simp[G8]
  rw[efz,Bw]at h1;obtain⟨g1,hr1,he1⟩:=UP (s:=(fr,σ)) hr m false o.op;generalize hfz:Jy false n o.op (fr,σ)=s1 at h1 hr1
  have hgo:∀{v:AV} {σ2:Ad},opL E (orc o.dst) false (evL n s1.1) s1.2 o.op=some (v,σ2)→fr'=put o.dst v s1.1→σ'=σ2→o.wp E.P a w next Q:=by
    intro v σ2 e1 e2 e3;subst e2 e3;refine Xl hE (hO _) e1 hr1 ?_;intro a' w' g' hr' he hg;exact hk a' w' g' hr' (he1.trans (he.of_gle hg))
  unfold wpOp;simp only[hi];cases hgd:o.guard with
  | none=>
    simp only[Rg,hgd,AsV,As4]at h1;obtain⟨⟨v,σ2⟩,e1,e2,e3⟩:=h1;simp only[Region.wanted,hgd,AuA];exact .inl (hgo e1 e2.symm e3.symm)
  | some jw=>
    obtain⟨j,want⟩:=jw;simp only[Rg,hgd]at h1;cases hy:Sw ops n fr j with
    |none=>simp[hy]at h1
    | some b=>
      simp only[hy,AtC]at h1;have hy':Mb ops (Ao n fr) j=some b:=by rw[Lm,hy]
      simp only[Region.wanted,hgd,JI hr hy'];by_cases e:b=some want
      · rw[AsU (by simp[e])]
        rw[show(b==some want)=true by simp[e]]at h1;simp only[AsV,As4]at h1;obtain⟨⟨v,σ2⟩,e1,e2,e3⟩:=h1;exact .inl (hgo e1 e2.symm e3.symm)
      · rw[AsX (by simp[e])]
        rw[show(b==some want)=false by simp[e]]at h1;simp only[AsW,As4]at h1;obtain⟨e2,e3⟩:=h1;subst e2 e3;refine hk _ w g ?_ (Evo.refl _ _ _ _);have:=Gq hr o.dst (OZ _ _ _);rw[Eu]at this;exact this
theorem Abr(hE:E.Ok){orc:Option Tmp→Orc}(hO:∀d,Q9 E.toBase (orc d)){ops:Array Oper}{T:List (List Nat)}(hc:Gc ops T=true)(hm:Ik E ops T=true){n0:Nat}(hn:ops.size=n0+1)(hT:∀j,j<n0→j∈T.getD n0 []){st':St}{Q:Exit→Act→World→Prop} :∀ (fuel:Nat) (rem:List Nat) (listed:Array Bool) (st:St) (a:Act) (w:World) (g:Gh),rem.length=fuel→(rem++[n0]).Pairwise (·<·)→listed.size=ops.size →(∀j,listed.getD j true=false↔j∈rem++[n0])→(∀k,k<ops.size→k ∉ rem++[n0]→∀d∈ES ops k,d ∉ rem++[n0]) →BC E orc ops rem st=some st'→Rel E w g st a→(∀a' w' g',Rel E w' g' st' a'→Evo E 0 w g w' g'→GLe g g'→∀next:Act→World→Prop,(∀a2 w2,Q .normal a2 w2→next a2 w2)→wpOp E.P ops Q n0 next a' w') →wpAny E.P .any ops Q (fuel+1) listed a w:=by
  have hin:∀(rem:List Nat) (listed:Array Bool),listed.size=ops.size→(∀j,listed.getD j true=false↔j∈rem)→∀j∈rem,j<ops.size:=by
    intro rem listed hs hl j hj;have:=(hl j).2 hj;by_cases e:j<listed.size
    · omega
    · simp[Array.getD,e]at this
  have hgd:∀(rem:List Nat) (listed:Array Bool),listed.size=ops.size→(∀j,listed.getD j true=false↔j∈rem)→∀d,d<ops.size→(listed.getD d false=true↔d ∉ rem):=by
    intro rem listed hs hl d hd
    have h1:listed.getD d false=listed.getD d true:=by
      have:d<listed.size:=by omega
      simp[Array.getD,this]
    rw[h1,←hl d];cases listed.getD d true<;>simp
  have hrd:∀(rem:List Nat) (listed:Array Bool),listed.size=ops.size→(∀j,listed.getD j true=false↔j∈rem)→∀i,
      (i∈Region.ready .any ops listed↔i∈rem∧∀d∈ES ops i,d ∉ rem):=by
    intro rem listed hs hl i;rw[mem_ready,hl i];constructor
    · rintro⟨h1,o,ho,h2⟩
      refine⟨h1,fun d hd=>?_⟩;have hlt:=DH hc (hin rem listed hs hl i h1) hd;have hds:=AuG hlt (hin rem listed hs hl i h1);obtain⟨e,he,hb,rfl⟩:=(Fv ho).1 hd;exact(hgd rem listed hs hl _ hds).1 (h2 e he hb)
    · rintro⟨h1,h2⟩
      have hi:=hin rem listed hs hl i h1;refine⟨h1,ops[i],Atd hi,fun e he hb=>?_⟩;have hd:e.on∈ES ops i:=(Fv (Atd hi)).2 ⟨e,he,hb,rfl⟩;exact(hgd rem listed hs hl _ (AuG (DH hc hi hd) hi)).2 (h2 _ hd)
  have hdone:∀(rem:List Nat) (listed:Array Bool),rem.Pairwise (·<·)→listed.size=ops.size→(∀j,listed.getD j true=false↔j∈rem)→Region.ready .any ops listed=[]→rem=[]:=by
    intro rem listed hp hs hl hr;cases rem with
    |nil=>rfl
    | cons i r=>
      have hi:i∈Region.ready .any ops listed:=(hrd _ listed hs hl i).2 ⟨Ath,fun d hd hm=>by
        have:=DH hc (hin _ listed hs hl i Ath) hd;rcases Atu.1 hm with rfl|hm
        · omega
        · have:=Att hp hm
          omega⟩
      rw[hr]at hi;cases hi
  intro fuel
  induction fuel with
  | zero=>
    intro rem listed st a w g hf hp hs hl hd hst hr hq;have:rem=[]:=Atl.1 hf;subst this;simp only[BC,AsW]at hst;subst hst;refine⟨fun h=>by have:=hdone _ listed hp hs hl h;simp at this,fun i hi=>?_⟩;obtain⟨hir,hid⟩:=(hrd _ listed hs hl i).1 hi;have:i=n0:=by simpa using hir
    subst this;refine hq a w g hr (Evo.refl _ _ _ _) (GLe.refl _) _ fun a2 w2 h2=>⟨?_,h2⟩
    rw[Aue];intro k hk;rw[mem_ready]at hk;have h3:=hk.1;by_cases e:k=i
    · subst e
      have:k<listed.size:=by omega
      simp[Array.getD,this]at h3
    · rw[getD_set_ne true (fun h=>e h.symm),hl k]at h3
      simp at h3;exact e h3
  | succ fuel ih=>
    intro rem listed st a w g hf hp hs hl hd hst hr hq;refine⟨fun h=>by have:=hdone _ listed hp hs hl h;simp at this,fun i hi=>?_⟩;obtain⟨hir0,hid⟩:=(hrd _ listed hs hl i).1 hi;have his:=hin _ listed hs hl i hir0;have hlt0:∀j∈rem,j<n0:=fun j hj=>(Ats.1 hp).2.2 j hj n0 (by simp)
    have hir:i∈rem:=by
      rcases Atk.1 hir0 with h|h
      · exact h
      have e:i=n0:=by simpa using h
      subst e
      obtain⟨j,hj⟩:∃j,j∈rem:=by
        cases rem with
        |nil=>simp at hf
        |cons j r=>exact⟨j,Ath⟩
      exact(Fk hc hd i his hid j (hT j (hlt0 j hj)) (At6 _ hj)).elim
    obtain⟨l1,l2,rfl⟩:=Avk hir;have hp':=(Ats.1 hp).1;rw[Ats]at hp';obtain⟨p1,p2,p3⟩:=hp';have hin0:i≠n0:=by have:=hlt0 i hir;omega
    have hnd:∀j∈l1++l2,j≠i:=by
      intro j hj;rcases Atk.1 hj with hj|hj
      · have:=p3 j hj i Ath;omega
      · have:=Att p2 hj;omega
    have hmem:∀j,j∈(l1++l2)++[n0]↔j∈(l1++i::l2)++[n0]∧j≠i:=by
      intro j;constructor
      · intro hj
        rcases Atk.1 hj with hj|hj
        · refine⟨?_,hnd j hj⟩
          simp only[Atk,Atu]at hj ⊢;rcases hj with hj|hj
          · exact .inl (.inl hj)
          · exact .inl (.inr (.inr hj))
        · have:j=n0:=by simpa using hj
          subst this;exact⟨by simp,fun h=>hin0 h.symm⟩
      · rintro⟨hj,hne⟩
        simp only[Atk,Atu]at hj ⊢;rcases hj with(hj|hj|hj)|hj
        · exact .inl (.inl hj)
        · exact(hne hj).elim
        · exact .inl (.inr hj)
        · exact .inr hj
    have hcm:∀j∈l1,∀x,ops[j]?=some x→KJ E ops x ops[i]=true:=by
      intro j hj x hx;have hji:j<i:=p3 j hj i Ath;have h1:=A6 (A6 hm his) hji;simp only[Atv,Atm]at h1;rcases h1 with h1|h1
      · exact(Fk hc hd i his hid j h1 (At6 _ (At6 _ hj))).elim
      · simp only[hx,Atd his]at h1
        exact h1
    obtain⟨st1,h1,h2⟩:=GI (Atd his) l1 st hcm hst;refine NV hE hO (Atd his) h1 hr fun a1 w1 g1 hr1 he1 hg1=>?_
    refine ih (l1++l2) (listed.setIfInBounds i true) st1 a1 w1 g1 ?_ ?_ ?_ ?_ ?_ h2 hr1 ?_
    · simp at hf ⊢;omega
    · exact hp.sublist (AvP (AuP (AuY i l2) l1) _)
    · simp[hs]
    · intro j
      rw[hmem j,←hl j];by_cases e:j=i
      · subst e
        have:j<listed.size:=by omega
        simp[Array.getD,this]
      · rw[getD_set_ne true (fun h=>e h.symm)]
        simp[e]
    · intro k hk hkn d hdk hdm
      have hd2:=((hmem d).1 hdm).1;by_cases e:k=i
      · subst e
        exact hid d hdk hd2
      · exact hd k hk (fun h=>hkn ((hmem k).2 ⟨h,e⟩)) d hdk hd2
    · intro a' w' g' hr' he' hg'
      exact hq a' w' g' hr' (he1.trans he') (hg1.trans hg')
def RJ:List Oper→List Oper
 |[]=>[]
 |[_]=>[]
 |x::y::l=>x::RJ (y::l)
def VL:List Oper→List Oper
 |[]=>[]
 |[x]=>[x]
 |_::y::l=>VL (y::l)
attribute [go_sem] RJ VL
theorem Vg:∀(x:Oper) (l:List Oper),∃o,VL (x::l)=[o]∧x::l=RJ (x::l)++[o]
  |x,[]=>⟨x,rfl,rfl⟩
  | x,y::l=>by
    obtain⟨o,h1,h2⟩:=Vg y l;exact⟨o,h1,by rw[RJ,Atj,←h2]⟩
def U9(l:List Oper)(T:List (List Nat)):Bool:=(!l.isEmpty)&&(List.range (l.length-1)).all fun j=>(T.getD (l.length-1) []).contains j
def Ak5(E:Env)(orc:Option Tmp→Orc)(n:Nat)(l:List Oper)(ts:List Nat)(s:Fr×Ad):Option (Fr×Ad) :=
 (BQ E orc true n l.toArray (RJ l) s).bind fun r=>(BQ E orc false n l.toArray (VL l) r).bind fun r=>some (keep ts r.1,r.2)
theorem AjZ{orc:Option Tmp→Orc}{n:Nat}{l:List Oper}{ts:List Nat}{s:Fr×Ad}:Ak5 E orc n l ts s=AhC ts (Kk E orc false n l.toArray (VL l) (Kk E orc true n l.toArray (RJ l) (some s))):=by
  rw[FM];unfold Ak5;cases BQ E orc true n l.toArray (RJ l) s with
  |none=>rw[Jj];rfl
  | some r=>
    rw[FM];unfold AhC;show(BQ E orc false n l.toArray (VL l) r).bind _=_;cases BQ E orc false n l.toArray (VL l) r<;>rfl
attribute [go_sem] AjZ
theorem Fq{orc:Option Tmp→Orc}{n:Nat}{ops:Array Oper}:∀(k:Nat) (l:List Oper) (fr fr':Fr) (σ σ':Ad),(∃r,ops.toList.drop k=l++r) →BQ E orc true n ops l (fr,σ)=some (fr',σ')→BC E orc ops (List.range' k l.length) ⟨Ao n fr,σ⟩=some ⟨Ao n fr',σ'⟩
  | k,[],fr,fr',σ,σ',hl,h=>by
    simp only[BQ,AsW,As4]at h;obtain⟨rfl,rfl⟩:=h;rfl
  | k,o::l,fr,fr',σ,σ',⟨r,hl⟩,h=>by
    simp only[BQ,As6]at h;obtain⟨⟨fr1,σ1⟩,h1,h2⟩:=h
    have hk:ops[k]?=some o:=by
      have:(ops.toList.drop k)[0]?=some o:=by rw[hl];rfl
      rw[Atq]at this;simpa using this
    have hl':ops.toList.drop (k+1)=l++r:=by
      rw[←Awf,hl];rfl
    show BC E orc ops (k::List.range' (k+1) l.length) _=_;unfold BC;simp only[hk,S5 h1,AsY];exact Fq (k+1) l _ _ _ _ ⟨r,hl'⟩ h2
theorem Xc(hE:E.Ok){orc:Option Tmp→Orc}(hO:KK E.toBase orc)(hP:E.P.follows .mixedOrders=true){m n id:Nat}{l:List Oper}(T:List (List Nat))(hok1:Gc l.toArray T=true)(hok2:Ik E l.toArray T=true)(hok3:U9 l T=true) {fr fr1 fr':Fr} {σ σ1 σ':Ad} {K:DB} (h1:BQ E orc true n l.toArray (RJ l) (fr,σ)=some (fr1,σ1)) (h2:BQ E orc false n l.toArray (VL l) (fr1,σ1)=some (fr',σ')) (hk:K .normal ⟨Ao n fr',σ'⟩) :Run E m (.region id l.toArray true) ⟨Ao n fr,σ⟩ K:=by
 cases l with
 |nil=>simp[U9]at hok3
 |cons x l=>
 obtain⟨o,ho,hl⟩:=Vg x l;generalize hn0:(RJ (x::l)).length=n0 at *;have hlen:(x::l).length=n0+1:=by rw[hl,Ate,hn0];rfl
 have hoi:(x::l).toArray[n0]?=some o:=by
  rw[List.getElem?_toArray,hl,As0 (by omega)];simp[hn0]
 have hT:∀j,j<n0→j∈T.getD n0 []:=by
  intro j hj;simp only[U9,Ata,hlen,Nat.add_sub_cancel]at hok3;exact Atm.1 (A6 hok3.2 hj)
 have hst:=Fq (E:=E) (ops:=(x::l).toArray) 0 (RJ (x::l)) fr fr1 σ σ1 ⟨[o],by simpa using hl⟩ h1;rw[←AtT,hn0]at hst;rw[ho]at h2;simp only[BQ,As6]at h2;obtain⟨s2,h2,h3⟩:=h2;cases h3;intro hcm a w g hr Q hq;refine K4 (Lg hcm) (wp_region_any hP ?_);have hsm:SameMem w { w with drawn:=w.drawn+1 }:=⟨rfl,rfl,rfl,rfl⟩;have hsz:(x::l).toArray.size=n0+1:=by simpa using hlen
 rw[hsz];refine Abr hE hO hok1 hok2 hsz hT n0 (List.range n0) _ ⟨Ao n fr,σ⟩ a _ g (by simp) ?_ (by simp[hsz]) ?_ ?_ hst (K7 hr hsm) ?_
 ·rw[←Aup];exact Aus
 ·intro j;rw[←Aup,AtR];by_cases h:j<n0+1<;>simp[Array.getD,h]
 ·intro k hk hkn;rw[←Aup]at hkn;exact(hkn (AtR.2 (by omega))).elim
 ·intro a1 w1 g1 hr1 he1 hg1 next hnext
  refine Z7 (m:=m) hE hO hoi h2 hr1 fun a2 w2 g2 hr2 he2=>hnext _ _ ?_
  exact hq _ _ _ _ _ hk hr2 ((((Evo.same hsm).trans (he1.of_gle hg1))).trans he2)
theorem Aeh(hE:E.Ok){orc:Option Tmp→Orc}(hO:KK E.toBase orc)(hP:E.P.follows .mixedOrders=true){m n id:Nat}{l:List Oper}(T:List (List Nat))(hok1:Gc l.toArray T=true)(hok2:Ik E l.toArray T=true)(hok3:U9 l T=true){fr fr':Fr}{σ σ':Ad}{K:DB}(ts:List Nat) (h:Ak5 E orc n l ts (fr,σ)=some (fr',σ')) {y:Code} (hk:Run E m y ⟨Ao n fr',σ'⟩ K):Run E m (.seq (.region id l.toArray true) y) ⟨Ao n fr,σ⟩ K:=by
 simp only[Ak5,As6,AsW,As4]at h;obtain⟨⟨fr1,σ1⟩,h1,⟨fr2,σ2⟩,h2,rfl,rfl⟩:=h;exact Kl (Xc hE hO hP T hok1 hok2 hok3 h1 h2 (FC (F4 _ _ _ _ _) hk))
section
variable {P:Prop}{N id:Nat}{l:List Oper}{fr fr':Fr}{σ σ':Ad}{y:Code}{orc:Option Tmp→Orc}{m:Nat}{K:DB}
theorem Dq(T:List (List Nat))(ts:List Nat)(o:KK E.toBase orc)(e:Is (Ak5 E orc N l ts (fr,σ)) fr' σ')(k:P→Run E m y ⟨Ao N fr',σ'⟩ K)(hP:E.P.follows .mixedOrders=true:=by exact MF)(h1:Gc l.toArray T=true:=by kernel_rfl)(h2:Ik E l.toArray T=true:=by kernel_rfl)(h3:U9 l T=true:=by kernel_rfl)(hE:E.Ok:=by assumption):P→Run E m (.seq (.region id l.toArray true) y) ⟨Ao N fr,σ⟩ K:=fun p=>Aeh hE o hP T h1 h2 h3 ts e (k p)
end
end Go.Rv
