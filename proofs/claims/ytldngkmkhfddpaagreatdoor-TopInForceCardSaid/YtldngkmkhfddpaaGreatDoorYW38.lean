/-
  Part 38.
-/
import Derived.Test.YtldngkmkhfddpaaGreatDoorYW37
namespace Go.Rv
open Go.RowKit
set_option linter.unusedVariables false
set_option linter.unusedSimpArgs false
variable {E:Env}
theorem AfH(hE:E.Ok){orc:Option Tmp->Orc}(hO:H3 E.toBase orc){m n i:Nat}{ops:Array Oper}{o:Oper}(hi:ops[i]?=some o){fr fr':Fr}{O O':Ac} (h1:Q8 E orc false n ops o (fr,O)=some (fr',O')) {a:Act} {w:World} {g:Gh} (hr:Rel E w g ⟨Ah n fr,O⟩ a) {next:Act->World->Prop} {Q:Exit->Act->World->Prop} (hk:∀a' w' g',Rel E w' g' ⟨Ah n fr',O'⟩ a'->Evo E m w g w' g'->next a' w'):wpOp E.P ops Q i next a w:=by
 unfold Q8 at h1;have efz:∀O,F9 (false&&F6 E ops o) O=some:=fun O=>by funext r;simp[F9]
 rw[efz,Bk]at h1;obtain⟨g1,hr1,he1⟩:=UC (s:=(fr,O)) hr m false o.op;generalize hfz:JO false n o.op (fr,O)=s1 at h1 hr1
 have hgo:∀{v:AV} {σ2:Ac},opL E (orc o.dst) false (evL n s1.1) s1.2 o.op=some (v,σ2)->fr'=put o.dst v s1.1->O'=σ2->o.wp E.P a w next Q:=by
  intro v σ2 e1 e2 e3;subst e2 e3;refine Fv hE (hO _) e1 hr1 ?_;intro a' w' g' hr' he hg;exact hk a' w' g' hr' (he1.trans (he.of_gle hg))
 unfold wpOp;simp only[hi];cases hgd:o.guard with
 |none=>
  simp only[QI,hgd,AqE,AqQ]at h1;obtain⟨⟨v,σ2⟩,e1,e2,e3⟩:=h1;simp only[Region.wanted,hgd,Aro];exact .inl (hgo e1 e2.symm e3.symm)
 | some jw=>
  obtain⟨j,want⟩:=jw;simp only[QI,hgd]at h1;cases hy:QV ops n fr j with
  |none=>simp[hy]at h1
  | some b=>
   simp only[hy,Arg]at h1;have hy':Iz ops (Ah n fr) j=some b:=by rw[Md,hy]
   simp only[Region.wanted,hgd,He hr hy'];by_cases e:b=some want
   ·rw[AqJ (by simp[e])];rw[show(b==some want)=true by simp[e]]at h1;simp only[AqE,AqQ]at h1;obtain⟨⟨v,σ2⟩,e1,e2,e3⟩:=h1;exact .inl (hgo e1 e2.symm e3.symm)
   rw[AqI (by simp[e])];rw[show(b==some want)=false by simp[e]]at h1;simp only[AqG,AqQ]at h1;obtain⟨e2,e3⟩:=h1;subst e2 e3;refine hk _ w g ?_ (Evo.refl _ _ _ _);have:=Fw hr o.dst (Kq _ _ _);rw[Eh]at this;exact this
theorem Z1(hE:E.Ok){orc:Option Tmp->Orc}(hO:∀d,Qm E.toBase (orc d)){ops:Array Oper}{T:List (List Nat)}(hc:F3 ops T=true)(hm:Il E ops T=true){n0:Nat}(hn:ops.size=n0+1)(hT:∀j,j<n0->j∈T.getD n0 []){st':St}{Q:Exit->Act->World->Prop} :∀(fuel:Nat) (rem:List Nat) (listed:Array Bool) (st:St) (a:Act) (w:World) (g:Gh),rem.length=fuel->(rem++[n0]).Pairwise (·<·)->listed.size=ops.size ->(∀j,listed.getD j true=false↔j∈rem++[n0])->(∀k,k<ops.size->k ∉ rem++[n0]->∀d∈FA ops k,d ∉ rem++[n0]) ->Bh E orc ops rem st=some st'->Rel E w g st a->(∀a' w' g',Rel E w' g' st' a'->Evo E 0 w g w' g'->GLe g g'->∀next:Act->World->Prop,(∀a2 w2,Q .normal a2 w2->next a2 w2)->wpOp E.P ops Q n0 next a' w') ->wpAny E.P .any ops Q (fuel+1) listed a w:=by
 have hin:∀(rem:List Nat) (listed:Array Bool),listed.size=ops.size->(∀j,listed.getD j true=false↔j∈rem)->∀j∈rem,j<ops.size:=by
  intro rem listed hs hl j hj;have:=(hl j).2 hj;by_cases e:j<listed.size
  ·omega
  simp[Array.getD,e]at this
 have hgd:∀(rem:List Nat) (listed:Array Bool),listed.size=ops.size->(∀j,listed.getD j true=false↔j∈rem)->∀d,d<ops.size->(listed.getD d false=true↔d ∉ rem):=by
  intro rem listed hs hl d hd
  have h1:listed.getD d false=listed.getD d true:=by
   have:d<listed.size:=by omega
   simp[Array.getD,this]
  rw[h1,<-hl d];cases listed.getD d true<;>simp
 have hrd:∀(rem:List Nat) (listed:Array Bool),listed.size=ops.size->(∀j,listed.getD j true=false↔j∈rem)->∀i,
   (i∈Region.ready .any ops listed↔i∈rem/\∀d∈FA ops i,d ∉ rem):=by
  intro rem listed hs hl i;rw[mem_ready,hl i];constructor
  ·rintro⟨h1,o,ho,h2⟩;refine⟨h1,fun d hd=>?_⟩;have hlt:=Fg hc (hin rem listed hs hl i h1) hd;have hds:=Asy hlt (hin rem listed hs hl i h1);obtain⟨e,he,hb,rfl⟩:=(Gg ho).1 hd;exact(hgd rem listed hs hl _ hds).1 (h2 e he hb)
  rintro⟨h1,h2⟩;have hi:=hin rem listed hs hl i h1;refine⟨h1,ops[i],Aq2 hi,fun e he hb=>?_⟩;have hd:e.on∈FA ops i:=(Gg (Aq2 hi)).2 ⟨e,he,hb,rfl⟩;exact(hgd rem listed hs hl _ (Asy (Fg hc hi hd) hi)).2 (h2 _ hd)
 have hdone:∀(rem:List Nat) (listed:Array Bool),rem.Pairwise (·<·)->listed.size=ops.size->(∀j,listed.getD j true=false↔j∈rem)->Region.ready .any ops listed=[]->rem=[]:=by
  intro rem listed hp hs hl hr;cases rem with
  |nil=>rfl
  | cons i r=>
   have hi:i∈Region.ready .any ops listed:=(hrd _ listed hs hl i).2 ⟨Aq4,fun d hd hm=>by
    have:=Fg hc (hin _ listed hs hl i Aq4) hd;rcases Aq9.1 hm with rfl|hm
    ·omega
    have:=Arf hp hm;omega⟩
   rw[hr]at hi;cases hi
 intro fuel
 induction fuel with
 | zero=>
  intro rem listed st a w g hf hp hs hl hd hst hr hq;have:rem=[]:=Ari.1 hf;subst this;simp only[Bh,AqG]at hst;subst hst;refine⟨fun h=>by have:=hdone _ listed hp hs hl h;simp at this,fun i hi=>?_⟩;obtain⟨hir,hid⟩:=(hrd _ listed hs hl i).1 hi;have:i=n0:=by simpa using hir
  subst this;refine hq a w g hr (Evo.refl _ _ _ _) (GLe.refl _) _ fun a2 w2 h2=>⟨?_,h2⟩
  rw[Asz];intro k hk;rw[mem_ready]at hk;have h3:=hk.1;by_cases e:k=i
  ·subst e;have:k<listed.size:=by omega
   simp[Array.getD,this]at h3
  rw[getD_set_ne true (fun h=>e h.symm),hl k]at h3;simp at h3;exact e h3
 | succ fuel ih=>
  intro rem listed st a w g hf hp hs hl hd hst hr hq;refine⟨fun h=>by have:=hdone _ listed hp hs hl h;simp at this,fun i hi=>?_⟩;obtain⟨hir0,hid⟩:=(hrd _ listed hs hl i).1 hi;have his:=hin _ listed hs hl i hir0;have hlt0:∀j∈rem,j<n0:=fun j hj=>(Ark.1 hp).2.2 j hj n0 (by simp)
  have hir:i∈rem:=by
   rcases Aq3.1 hir0 with h|h
   ·exact h
   have e:i=n0:=by simpa using h
   subst e
   obtain⟨j,hj⟩:∃j,j∈rem:=by
    cases rem with
    |nil=>simp at hf
    |cons j r=>exact⟨j,Aq4⟩
   exact(HL hc hd i his hid j (hT j (hlt0 j hj)) (Asu _ hj)).elim
  obtain⟨l1,l2,rfl⟩:=AsY hir;have hp':=(Ark.1 hp).1;rw[Ark]at hp';obtain⟨p1,p2,p3⟩:=hp';have hin0:i≠n0:=by have:=hlt0 i hir;omega
  have hnd:∀j∈l1++l2,j≠i:=by
   intro j hj;rcases Aq3.1 hj with hj|hj
   ·have:=p3 j hj i Aq4;omega
   have:=Arf p2 hj;omega
  have hmem:∀j,j∈(l1++l2)++[n0]↔j∈(l1++i::l2)++[n0]/\j≠i:=by
   intro j;constructor
   ·intro hj;rcases Aq3.1 hj with hj|hj
    ·refine⟨?_,hnd j hj⟩;simp only[Aq3,Aq9]at hj ⊢;rcases hj with hj|hj
     ·exact .inl (.inl hj)
     exact .inl (.inr (.inr hj))
    have:j=n0:=by simpa using hj
    subst this;exact⟨by simp,fun h=>hin0 h.symm⟩
   rintro⟨hj,hne⟩;simp only[Aq3,Aq9]at hj ⊢;rcases hj with(hj|hj|hj)|hj
   ·exact .inl (.inl hj)
   ·exact(hne hj).elim
   ·exact .inl (.inr hj)
   exact .inr hj
  have hcm:∀j∈l1,∀x,ops[j]?=some x->Ks E ops x ops[i]=true:=by
   intro j hj x hx;have hji:j<i:=p3 j hj i Aq4;have h1:=A6 (A6 hm his) hji;simp only[Art,AqX]at h1;rcases h1 with h1|h1
   ·exact(HL hc hd i his hid j h1 (Asu _ (Asu _ hj))).elim
   simp only[hx,Aq2 his]at h1;exact h1
  obtain⟨st1,h1,h2⟩:=It (Aq2 his) l1 st hcm hst;refine OH hE hO (Aq2 his) h1 hr fun a1 w1 g1 hr1 he1 hg1=>?_
  refine ih (l1++l2) (listed.setIfInBounds i true) st1 a1 w1 g1 ?_ ?_ ?_ ?_ ?_ h2 hr1 ?_
  ·simp at hf ⊢;omega
  ·exact hp.sublist (Atn (Asx (AsE i l2) l1) _)
  ·simp[hs]
  ·intro j;rw[hmem j,<-hl j];by_cases e:j=i
   ·subst e;have:j<listed.size:=by omega
    simp[Array.getD,this]
   rw[getD_set_ne true (fun h=>e h.symm)];simp[e]
  ·intro k hk hkn d hdk hdm;have hd2:=((hmem d).1 hdm).1;by_cases e:k=i
   ·subst e;exact hid d hdk hd2
   exact hd k hk (fun h=>hkn ((hmem k).2 ⟨h,e⟩)) d hdk hd2
  intro a' w' g' hr' he' hg';exact hq a' w' g' hr' (he1.trans he') (hg1.trans hg')
def Ou:List Oper->List Oper
 |[]=>[]
 |[_]=>[]
 |x::y::l=>x::Ou (y::l)
def QD:List Oper->List Oper
 |[]=>[]
 |[x]=>[x]
 |_::y::l=>QD (y::l)
attribute [go_sem] Ou QD
theorem PC:∀(x:Oper) (l:List Oper),∃o,QD (x::l)=[o]/\x::l=Ou (x::l)++[o]
 |x,[]=>⟨x,rfl,rfl⟩
 |x,y::l=>by
  obtain⟨o,h1,h2⟩:=PC y l;exact⟨o,h1,by rw[Ou,Aq7,<-h2]⟩
def Uc(l:List Oper)(T:List (List Nat)):Bool:=(!l.isEmpty)&&(List.range (l.length-1)).all fun j=>(T.getD (l.length-1) []).contains j
def Agh(E:Env)(orc:Option Tmp->Orc)(n:Nat)(l:List Oper)(ts:List Nat)(s:Fr×Ac):Option (Fr×Ac) :=
 (Cy E orc true n l.toArray (Ou l) s).bind fun r=>(Cy E orc false n l.toArray (QD l) r).bind fun r=>some (keep ts r.1,r.2)
theorem Ajd{orc:Option Tmp->Orc}{n:Nat}{l:List Oper}{ts:List Nat}{s:Fr×Ac}:Agh E orc n l ts s=AmV ts (MQ E orc false n l.toArray (QD l) (MQ E orc true n l.toArray (Ou l) (some s))):=by
 rw[KC];unfold Agh;cases Cy E orc true n l.toArray (Ou l) s with
 |none=>rw[LQ];rfl
 |some r=>
  rw[KC];unfold AmV;show(Cy E orc false n l.toArray (QD l) r).bind _=_;cases Cy E orc false n l.toArray (QD l) r<;>rfl
attribute [go_sem] Ajd
theorem NR{orc:Option Tmp->Orc}{n:Nat}{ops:Array Oper}:∀(k:Nat) (l:List Oper) (fr fr':Fr) (O O':Ac),(∃r,ops.toList.drop k=l++r) ->Cy E orc true n ops l (fr,O)=some (fr',O')->Bh E orc ops (List.range' k l.length) ⟨Ah n fr,O⟩=some ⟨Ah n fr',O'⟩
 |k,[],fr,fr',O,O',hl,h=>by
  simp only[Cy,AqG,AqQ]at h;obtain⟨rfl,rfl⟩:=h;rfl
 | k,o::l,fr,fr',O,O',⟨r,hl⟩,h=>by
  simp only[Cy,AqK]at h;obtain⟨⟨fr1,σ1⟩,h1,h2⟩:=h
  have hk:ops[k]?=some o:=by
   have:(ops.toList.drop k)[0]?=some o:=by rw[hl];rfl
   rw[Are]at this;simpa using this
  have hl':ops.toList.drop (k+1)=l++r:=by
   rw[<-AtQ,hl];rfl
  show Bh E orc ops (k::List.range' (k+1) l.length) _=_;unfold Bh;simp only[hk,Jg h1,ArL];exact NR (k+1) l _ _ _ _ ⟨r,hl'⟩ h2
theorem VA(hE:E.Ok){orc:Option Tmp->Orc}(hO:H3 E.toBase orc)(hP:E.P.follows .mixedOrders=true){m n id:Nat}{l:List Oper}(T:List (List Nat))(hok1:F3 l.toArray T=true)(hok2:Il E l.toArray T=true)(hok3:Uc l T=true) {fr fr1 fr':Fr} {O σ1 O':Ac} {K:CX} (h1:Cy E orc true n l.toArray (Ou l) (fr,O)=some (fr1,σ1)) (h2:Cy E orc false n l.toArray (QD l) (fr1,σ1)=some (fr',O')) (hk:K .normal ⟨Ah n fr',O'⟩) :Run E m (.region id l.toArray true) ⟨Ah n fr,O⟩ K:=by
 cases l with
 |nil=>simp[Uc]at hok3
 |cons x l=>
 obtain⟨o,ho,hl⟩:=PC x l;generalize hn0:(Ou (x::l)).length=n0 at *;have hlen:(x::l).length=n0+1:=by rw[hl,AqM,hn0];rfl
 have hoi:(x::l).toArray[n0]?=some o:=by
  rw[List.getElem?_toArray,hl,AqL (by omega)];simp[hn0]
 have hT:∀j,j<n0->j∈T.getD n0 []:=by
  intro j hj;simp only[Uc,AqZ,hlen,Atg]at hok3;exact AqX.1 (A6 hok3.2 hj)
 have hst:=NR (E:=E) (ops:=(x::l).toArray) 0 (Ou (x::l)) fr fr1 O σ1 ⟨[o],by simpa using hl⟩ h1;rw[<-ArQ,hn0]at hst;rw[ho]at h2;simp only[Cy,AqK]at h2;obtain⟨s2,h2,h3⟩:=h2;cases h3;intro hcm a w g hr Q hq;refine Ik (JN hcm) (wp_region_any hP ?_);have hsm:SameMem w { w with drawn:=w.drawn+1 }:=⟨rfl,rfl,rfl,rfl⟩;have hsz:(x::l).toArray.size=n0+1:=by simpa using hlen
 rw[hsz];refine Z1 hE hO hok1 hok2 hsz hT n0 (List.range n0) _ ⟨Ah n fr,O⟩ a _ g (by simp) ?_ (by simp[hsz]) ?_ ?_ hst (JU hr hsm) ?_
 ·rw[<-AtG];exact Ar1
 ·intro j;rw[<-AtG,ArD];by_cases h:j<n0+1<;>simp[Array.getD,h]
 ·intro k hk hkn;rw[<-AtG]at hkn;exact(hkn (ArD.2 (by omega))).elim
 intro a1 w1 g1 hr1 he1 hg1 next hnext
 refine AfH (m:=m) hE hO hoi h2 hr1 fun a2 w2 g2 hr2 he2=>hnext _ _ ?_
 exact hq _ _ _ _ _ hk hr2 ((((Evo.same hsm).trans (he1.of_gle hg1))).trans he2)
theorem Ach(hE:E.Ok){orc:Option Tmp->Orc}(hO:H3 E.toBase orc)(hP:E.P.follows .mixedOrders=true){m n id:Nat}{l:List Oper}(T:List (List Nat))(hok1:F3 l.toArray T=true)(hok2:Il E l.toArray T=true)(hok3:Uc l T=true){fr fr':Fr}{O O':Ac}{K:CX}(hw:MC E m K)(ts:List Nat) (h:Agh E orc n l ts (fr,O)=some (fr',O')) (hk:K .normal ⟨Ah n fr',O'⟩):Run E m (.region id l.toArray true) ⟨Ah n fr,O⟩ K:=by
 simp only[Agh,AqK,AqG,AqQ]at h;obtain⟨⟨fr1,σ1⟩,h1,⟨fr2,σ2⟩,h2,rfl,rfl⟩:=h;exact VA hE hO hP T hok1 hok2 hok3 h1 h2 (hw _ _ (D0 _ _ _ _ _) hk)
section
variable {P:Prop}{N id:Nat}{l:List Oper}{fr fr':Fr}{O O':Ac}{y:Code}{orc:Option Tmp->Orc}{m:Nat}{K:CX}
theorem Gq(T:List (List Nat))(ts:List Nat)(o:H3 E.toBase orc)(e:Is (Agh E orc N l ts (fr,O)) fr' O')(k:P->K .normal ⟨Ah N fr',O'⟩)(hw:MC E m K:=by repeat' first|exact EK|exact Gl|exact SD|exact Se|exact LB|refine Eo ?_|refine H8 ?_)(hP:E.P.follows .mixedOrders=true:=by exact mixed)(h1:F3 l.toArray T=true:=by kernel_rfl)(h2:Il E l.toArray T=true:=by kernel_rfl)(h3:Uc l T=true:=by kernel_rfl)(hE:E.Ok:=by assumption):P->Run E m (.region id l.toArray true) ⟨Ah N fr,O⟩ K:=fun p=>Ach hE o hP T h1 h2 h3 hw ts e (k p)
end
end Go.Rv
