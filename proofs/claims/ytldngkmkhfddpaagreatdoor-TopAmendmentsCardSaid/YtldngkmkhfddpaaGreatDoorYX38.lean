/-
  Part 38.
-/
import Derived.Test.YtldngkmkhfddpaaGreatDoorYX37
namespace Go.Rv
open Go.RowKit
set_option linter.unusedVariables false
set_option linter.unusedSimpArgs false
variable {E:Env}
theorem AcQ(hE:E.Ok){orc:Option Tmp->Orc}(hO:He E.toBase orc){m n i:Nat}{ops:Array Oper}{o:Oper}(hi:ops[i]?=some o){fr fr':Fr}{O O':Ac} (h1:Qv E orc false n ops o (fr,O)=some (fr',O')) {a:Act} {w:World} {g:Gh} (hr:Rel E w g ⟨Ai n fr,O⟩ a) {next:Act->World->Prop} {Q:Exit->Act->World->Prop} (hk:∀a' w' g',Rel E w' g' ⟨Ai n fr',O'⟩ a'->Evo E m w g w' g'->next a' w'):wpOp E.P ops Q i next a w:=by
 unfold Qv at h1;have efz:∀O,Fl (false&&ED E ops o) O=some:=fun O=>by funext r;simp[Fl]
 rw[efz,Ba]at h1;obtain⟨g1,hr1,he1⟩:=Uc (s:=(fr,O)) hr m false o.op;generalize hfz:Js false n o.op (fr,O)=s1 at h1 hr1
 have hgo:∀{v:AV} {σ2:Ac},opL E (orc o.dst) false (evL n s1.1) s1.2 o.op=some (v,σ2)->fr'=put o.dst v s1.1->O'=σ2->o.wp E.P a w next Q:=by
  intro v σ2 e1 e2 e3;subst e2 e3;refine Nd hE (hO _) e1 hr1 ?_;intro a' w' g' hr' he hg;exact hk a' w' g' hr' (he1.trans (he.of_gle hg))
 unfold wpOp;simp only[hi];cases hgd:o.guard with
 |none=>
  simp only[Qi,hgd,Ao5,Apf]at h1;obtain⟨⟨v,σ2⟩,e1,e2,e3⟩:=h1;simp only[Region.wanted,hgd,ApT];exact .inl (hgo e1 e2.symm e3.symm)
 | some jw=>
  obtain⟨j,want⟩:=jw;simp only[Qi,hgd]at h1;cases hy:QK ops n fr j with
  |none=>simp[hy]at h1
  | some b=>
   simp only[hy,ApG]at h1;have hy':Io ops (Ai n fr) j=some b:=by rw[Lw,hy]
   simp only[Region.wanted,hgd,GQ hr hy'];by_cases e:b=some want
   ·rw[Apb (by simp[e])];rw[show(b==some want)=true by simp[e]]at h1;simp only[Ao5,Apf]at h1;obtain⟨⟨v,σ2⟩,e1,e2,e3⟩:=h1;exact .inl (hgo e1 e2.symm e3.symm)
   rw[Apd (by simp[e])];rw[show(b==some want)=false by simp[e]]at h1;simp only[Ao7,Apf]at h1;obtain⟨e2,e3⟩:=h1;subst e2 e3;refine hk _ w g ?_ (Evo.refl _ _ _ _);have:=FI hr o.dst (Km _ _ _);rw[EO]at this;exact this
theorem XT(hE:E.Ok){orc:Option Tmp->Orc}(hO:∀d,OW E.toBase (orc d)){ops:Array Oper}{T:List (List Nat)}(hc:EX ops T=true)(hm:Ia E ops T=true){n0:Nat}(hn:ops.size=n0+1)(hT:∀j,j<n0->j∈T.getD n0 []){st':St}{Q:Exit->Act->World->Prop} :∀(fuel:Nat) (rem:List Nat) (listed:Array Bool) (st:St) (a:Act) (w:World) (g:Gh),rem.length=fuel->(rem++[n0]).Pairwise (·<·)->listed.size=ops.size ->(∀j,listed.getD j true=false↔j∈rem++[n0])->(∀k,k<ops.size->k ∉ rem++[n0]->∀d∈F3 ops k,d ∉ rem++[n0]) ->AK E orc ops rem st=some st'->Rel E w g st a->(∀a' w' g',Rel E w' g' st' a'->Evo E 0 w g w' g'->GLe g g'->∀next:Act->World->Prop,(∀a2 w2,Q .normal a2 w2->next a2 w2)->wpOp E.P ops Q n0 next a' w') ->wpAny E.P .any ops Q (fuel+1) listed a w:=by
 have hin:∀(rem:List Nat) (listed:Array Bool),listed.size=ops.size->(∀j,listed.getD j true=false↔j∈rem)->∀j∈rem,j<ops.size:=by
  intro rem listed hs hl j hj;have:=(hl j).2 hj;by_cases e:j<listed.size
  ·omega
  simp[Array.getD,e]at this
 have hgd:∀(rem:List Nat) (listed:Array Bool),listed.size=ops.size->(∀j,listed.getD j true=false↔j∈rem)->∀d,d<ops.size->(listed.getD d false=true↔d ∉ rem):=by
  intro rem listed hs hl d hd
  have h1:listed.getD d false=listed.getD d true:=by
   have:d<listed.size:=by omega
   simp[Array.getD,this]
  rw[h1,<-hl d];cases listed.getD d true<;>simp
 have hrd:∀(rem:List Nat) (listed:Array Bool),listed.size=ops.size->(∀j,listed.getD j true=false↔j∈rem)->∀i,
   (i∈Region.ready .any ops listed↔i∈rem/\∀d∈F3 ops i,d ∉ rem):=by
  intro rem listed hs hl i;rw[mem_ready,hl i];constructor
  ·rintro⟨h1,o,ho,h2⟩;refine⟨h1,fun d hd=>?_⟩;have hlt:=Ff hc (hin rem listed hs hl i h1) hd;have hds:=AqV hlt (hin rem listed hs hl i h1);obtain⟨e,he,hb,rfl⟩:=(FQ ho).1 hd;exact(hgd rem listed hs hl _ hds).1 (h2 e he hb)
  rintro⟨h1,h2⟩;have hi:=hin rem listed hs hl i h1;refine⟨h1,ops[i],Apr hi,fun e he hb=>?_⟩;have hd:e.on∈F3 ops i:=(FQ (Apr hi)).2 ⟨e,he,hb,rfl⟩;exact(hgd rem listed hs hl _ (AqV (Ff hc hi hd) hi)).2 (h2 _ hd)
 have hdone:∀(rem:List Nat) (listed:Array Bool),rem.Pairwise (·<·)->listed.size=ops.size->(∀j,listed.getD j true=false↔j∈rem)->Region.ready .any ops listed=[]->rem=[]:=by
  intro rem listed hp hs hl hr;cases rem with
  |nil=>rfl
  | cons i r=>
   have hi:i∈Region.ready .any ops listed:=(hrd _ listed hs hl i).2 ⟨Apu,fun d hd hm=>by
    have:=Ff hc (hin _ listed hs hl i Apu) hd;rcases Apx.1 hm with rfl|hm
    ·omega
    have:=ApB hp hm;omega⟩
   rw[hr]at hi;cases hi
 intro fuel
 induction fuel with
 | zero=>
  intro rem listed st a w g hf hp hs hl hd hst hr hq;have:rem=[]:=ApM.1 hf;subst this;simp only[AK,Ao7]at hst;subst hst;refine⟨fun h=>by have:=hdone _ listed hp hs hl h;simp at this,fun i hi=>?_⟩;obtain⟨hir,hid⟩:=(hrd _ listed hs hl i).1 hi;have:i=n0:=by simpa using hir
  subst this;refine hq a w g hr (Evo.refl _ _ _ _) (GLe.refl _) _ fun a2 w2 h2=>⟨?_,h2⟩
  rw[AqW];intro k hk;rw[mem_ready]at hk;have h3:=hk.1;by_cases e:k=i
  ·subst e;have:k<listed.size:=by omega
   simp[Array.getD,this]at h3
  rw[getD_set_ne true (fun h=>e h.symm),hl k]at h3;simp at h3;exact e h3
 | succ fuel ih=>
  intro rem listed st a w g hf hp hs hl hd hst hr hq;refine⟨fun h=>by have:=hdone _ listed hp hs hl h;simp at this,fun i hi=>?_⟩;obtain⟨hir0,hid⟩:=(hrd _ listed hs hl i).1 hi;have his:=hin _ listed hs hl i hir0;have hlt0:∀j∈rem,j<n0:=fun j hj=>(ApI.1 hp).2.2 j hj n0 (by simp)
  have hir:i∈rem:=by
   rcases Aps.1 hir0 with h|h
   ·exact h
   have e:i=n0:=by simpa using h
   subst e
   obtain⟨j,hj⟩:∃j,j∈rem:=by
    cases rem with
    |nil=>simp at hf
    |cons j r=>exact⟨j,Apu⟩
   exact(HM hc hd i his hid j (hT j (hlt0 j hj)) (AqR _ hj)).elim
  obtain⟨l1,l2,rfl⟩:=Arn hir;have hp':=(ApI.1 hp).1;rw[ApI]at hp';obtain⟨p1,p2,p3⟩:=hp';have hin0:i≠n0:=by have:=hlt0 i hir;omega
  have hnd:∀j∈l1++l2,j≠i:=by
   intro j hj;rcases Aps.1 hj with hj|hj
   ·have:=p3 j hj i Apu;omega
   have:=ApB p2 hj;omega
  have hmem:∀j,j∈(l1++l2)++[n0]↔j∈(l1++i::l2)++[n0]/\j≠i:=by
   intro j;constructor
   ·intro hj;rcases Aps.1 hj with hj|hj
    ·refine⟨?_,hnd j hj⟩;simp only[Aps,Apx]at hj ⊢;rcases hj with hj|hj
     ·exact .inl (.inl hj)
     exact .inl (.inr (.inr hj))
    have:j=n0:=by simpa using hj
    subst this;exact⟨by simp,fun h=>hin0 h.symm⟩
   rintro⟨hj,hne⟩;simp only[Aps,Apx]at hj ⊢;rcases hj with(hj|hj|hj)|hj
   ·exact .inl (.inl hj)
   ·exact(hne hj).elim
   ·exact .inl (.inr hj)
   exact .inr hj
  have hcm:∀j∈l1,∀x,ops[j]?=some x->J9 E ops x ops[i]=true:=by
   intro j hj x hx;have hji:j<i:=p3 j hj i Apu;have h1:=As (As hm his) hji;simp only[ApN,Apo]at h1;rcases h1 with h1|h1
   ·exact(HM hc hd i his hid j h1 (AqR _ (AqR _ hj))).elim
   simp only[hx,Apr his]at h1;exact h1
  obtain⟨st1,h1,h2⟩:=HT (Apr his) l1 st hcm hst;refine Oo hE hO (Apr his) h1 hr fun a1 w1 g1 hr1 he1 hg1=>?_
  refine ih (l1++l2) (listed.setIfInBounds i true) st1 a1 w1 g1 ?_ ?_ ?_ ?_ ?_ h2 hr1 ?_
  ·simp at hf ⊢;omega
  ·exact hp.sublist (ArR (AqT (Aq5 i l2) l1) _)
  ·simp[hs]
  ·intro j;rw[hmem j,<-hl j];by_cases e:j=i
   ·subst e;have:j<listed.size:=by omega
    simp[Array.getD,this]
   rw[getD_set_ne true (fun h=>e h.symm)];simp[e]
  ·intro k hk hkn d hdk hdm;have hd2:=((hmem d).1 hdm).1;by_cases e:k=i
   ·subst e;exact hid d hdk hd2
   exact hd k hk (fun h=>hkn ((hmem k).2 ⟨h,e⟩)) d hdk hd2
  intro a' w' g' hr' he' hg';exact hq a' w' g' hr' (he1.trans he') (hg1.trans hg')
def NU:List Oper->List Oper
 |[]=>[]
 |[_]=>[]
 |x::y::l=>x::NU (y::l)
def Qd:List Oper->List Oper
 |[]=>[]
 |[x]=>[x]
 |_::y::l=>Qd (y::l)
attribute [go_sem] NU Qd
theorem P7:∀(x:Oper) (l:List Oper),∃o,Qd (x::l)=[o]/\x::l=NU (x::l)++[o]
 |x,[]=>⟨x,rfl,rfl⟩
 |x,y::l=>by
  obtain⟨o,h1,h2⟩:=P7 y l;exact⟨o,h1,by rw[NU,Apv,<-h2]⟩
def TC(l:List Oper)(T:List (List Nat)):Bool:=(!l.isEmpty)&&(List.range (l.length-1)).all fun j=>(T.getD (l.length-1) []).contains j
def Afh(E:Env)(orc:Option Tmp->Orc)(n:Nat)(l:List Oper)(ts:List Nat)(s:Fr×Ac):Option (Fr×Ac) :=
 (Cc E orc true n l.toArray (NU l) s).bind fun r=>(Cc E orc false n l.toArray (Qd l) r).bind fun r=>some (keep ts r.1,r.2)
theorem AgE{orc:Option Tmp->Orc}{n:Nat}{l:List Oper}{ts:List Nat}{s:Fr×Ac}:Afh E orc n l ts s=Aip ts (Mt E orc false n l.toArray (Qd l) (Mt E orc true n l.toArray (NU l) (some s))):=by
 rw[Kj];unfold Afh;cases Cc E orc true n l.toArray (NU l) s with
 |none=>rw[Ls];rfl
 |some r=>
  rw[Kj];unfold Aip;show(Cc E orc false n l.toArray (Qd l) r).bind _=_;cases Cc E orc false n l.toArray (Qd l) r<;>rfl
attribute [go_sem] AgE
theorem Ns{orc:Option Tmp->Orc}{n:Nat}{ops:Array Oper}:∀(k:Nat) (l:List Oper) (fr fr':Fr) (O O':Ac),(∃r,ops.toList.drop k=l++r) ->Cc E orc true n ops l (fr,O)=some (fr',O')->AK E orc ops (List.range' k l.length) ⟨Ai n fr,O⟩=some ⟨Ai n fr',O'⟩
 |k,[],fr,fr',O,O',hl,h=>by
  simp only[Cc,Ao7,Apf]at h;obtain⟨rfl,rfl⟩:=h;rfl
 | k,o::l,fr,fr',O,O',⟨r,hl⟩,h=>by
  simp only[Cc,Apa]at h;obtain⟨⟨fr1,σ1⟩,h1,h2⟩:=h
  have hk:ops[k]?=some o:=by
   have:(ops.toList.drop k)[0]?=some o:=by rw[hl];rfl
   rw[ApJ]at this;simpa using this
  have hl':ops.toList.drop (k+1)=l++r:=by
   rw[<-Asi,hl];rfl
  show AK E orc ops (k::List.range' (k+1) l.length) _=_;unfold AK;simp only[hk,IV h1,Ap4];exact Ns (k+1) l _ _ _ _ ⟨r,hl'⟩ h2
theorem V0(hE:E.Ok){orc:Option Tmp->Orc}(hO:He E.toBase orc)(hP:E.P.follows .mixedOrders=true){m n id:Nat}{l:List Oper}(T:List (List Nat))(hok1:EX l.toArray T=true)(hok2:Ia E l.toArray T=true)(hok3:TC l T=true) {fr fr1 fr':Fr} {O σ1 O':Ac} {K:CO} (h1:Cc E orc true n l.toArray (NU l) (fr,O)=some (fr1,σ1)) (h2:Cc E orc false n l.toArray (Qd l) (fr1,σ1)=some (fr',O')) (hk:K .normal ⟨Ai n fr',O'⟩) :Run E m (.region id l.toArray true) ⟨Ai n fr,O⟩ K:=by
 cases l with
 |nil=>simp[TC]at hok3
 |cons x l=>
 obtain⟨o,ho,hl⟩:=P7 x l;generalize hn0:(NU (x::l)).length=n0 at *;have hlen:(x::l).length=n0+1:=by rw[hl,Apc,hn0];rfl
 have hoi:(x::l).toArray[n0]?=some o:=by
  rw[List.getElem?_toArray,hl,Ape (by omega)];simp[hn0]
 have hT:∀j,j<n0->j∈T.getD n0 []:=by
  intro j hj;simp only[TC,Apj,hlen,ArI]at hok3;exact Apo.1 (As hok3.2 hj)
 have hst:=Ns (E:=E) (ops:=(x::l).toArray) 0 (NU (x::l)) fr fr1 O σ1 ⟨[o],by simpa using hl⟩ h1;rw[<-Ap9,hn0]at hst;rw[ho]at h2;simp only[Cc,Apa]at h2;obtain⟨s2,h2,h3⟩:=h2;cases h3;intro hcm a w g hr Q hq;refine Hr (Iu hcm) (wp_region_any hP ?_);have hsm:SameMem w { w with drawn:=w.drawn+1 }:=⟨rfl,rfl,rfl,rfl⟩;have hsz:(x::l).toArray.size=n0+1:=by simpa using hlen
 rw[hsz];refine XT hE hO hok1 hok2 hsz hT n0 (List.range n0) _ ⟨Ai n fr,O⟩ a _ g (by simp) ?_ (by simp[hsz]) ?_ ?_ hst (HS hr hsm) ?_
 ·rw[<-Ar8];exact Aqj
 ·intro j;rw[<-Ar8,ApS];by_cases h:j<n0+1<;>simp[Array.getD,h]
 ·intro k hk hkn;rw[<-Ar8]at hkn;exact(hkn (ApS.2 (by omega))).elim
 intro a1 w1 g1 hr1 he1 hg1 next hnext
 refine AcQ (m:=m) hE hO hoi h2 hr1 fun a2 w2 g2 hr2 he2=>hnext _ _ ?_
 exact hq _ _ _ _ _ hk hr2 ((((Evo.same hsm).trans (he1.of_gle hg1))).trans he2)
theorem AaT(hE:E.Ok){orc:Option Tmp->Orc}(hO:He E.toBase orc)(hP:E.P.follows .mixedOrders=true){m n id:Nat}{l:List Oper}(T:List (List Nat))(hok1:EX l.toArray T=true)(hok2:Ia E l.toArray T=true)(hok3:TC l T=true){fr fr':Fr}{O O':Ac}{K:CO}(hw:Lm E m K)(ts:List Nat) (h:Afh E orc n l ts (fr,O)=some (fr',O')) (hk:K .normal ⟨Ai n fr',O'⟩):Run E m (.region id l.toArray true) ⟨Ai n fr,O⟩ K:=by
 simp only[Afh,Apa,Ao7,Apf]at h;obtain⟨⟨fr1,σ1⟩,h1,⟨fr2,σ2⟩,h2,rfl,rfl⟩:=h;exact V0 hE hO hP T hok1 hok2 hok3 h1 h2 (hw _ _ (Dh _ _ _ _ _) hk)
section
variable {P:Prop}{N id:Nat}{l:List Oper}{fr fr':Fr}{O O':Ac}{y:Code}{orc:Option Tmp->Orc}{m:Nat}{K:CO}
theorem Gq(T:List (List Nat))(ts:List Nat)(o:He E.toBase orc)(e:Is (Afh E orc N l ts (fr,O)) fr' O')(k:P->K .normal ⟨Ai N fr',O'⟩)(hw:Lm E m K:=by repeat' first|exact Ea|exact FJ|exact Qm|exact Qw|exact Kr|refine E4 ?_|refine GJ ?_)(hP:E.P.follows .mixedOrders=true:=by exact mixed)(h1:EX l.toArray T=true:=by kernel_rfl)(h2:Ia E l.toArray T=true:=by kernel_rfl)(h3:TC l T=true:=by kernel_rfl)(hE:E.Ok:=by assumption):P->Run E m (.region id l.toArray true) ⟨Ai N fr,O⟩ K:=fun p=>AaT hE o hP T h1 h2 h3 hw ts e (k p)
end
end Go.Rv
