/-
  Part 29.
-/
import Derived.Test.YtldngkmkhfddpaaGreatDoorYX28
namespace Go.Rv
set_option linter.unusedVariables false
set_option linter.unusedSimpArgs false
variable{O O':Ac}
variable {E:Env}
theorem HC(hE:E.Ok){orc:Option Tmp->Orc}(hO:∀d,OW E.toBase (orc d)){ops:Array Oper}{T:List (List Nat)}(hc:EX ops T=true){st':St}(hfront:∀(i:Nat) (his:i<ops.size) (l1 l2:List Nat) (st:St),(l1++i::l2).Pairwise (·<·)->(∀j∈l1,j ∉ T.getD i [])->AK E orc ops (l1++i::l2) st=some st' ->∃st1,Bw E orc ops ops[i] st=some st1/\AK E orc ops (l1++l2) st1=some st') {Q:Exit->Act->World->Prop} :∀(fuel:Nat) (rem:List Nat) (listed:Array Bool) (st:St) (a:Act) (w:World) (g:Gh),rem.length=fuel->rem.Pairwise (·<·)->listed.size=ops.size ->(∀j,listed.getD j true=false↔j∈rem)->(∀k,k<ops.size->k ∉ rem->∀d∈F3 ops k,d ∉ rem) ->AK E orc ops rem st=some st'->Rel E w g st a->(∀a' w' g',Rel E w' g' st' a'->Evo E 0 w g w' g'->GLe g g'->Q .normal a' w') ->wpAny E.P .any ops Q fuel listed a w:=by
 have hin:∀(rem:List Nat) (listed:Array Bool),listed.size=ops.size->(∀j,listed.getD j true=false↔j∈rem)->∀j∈rem,j<ops.size:=by
  intro rem listed hs hl j hj;have:=(hl j).2 hj;by_cases e:j<listed.size
  ·omega
  simp[Array.getD,e]at this
 have hgd:∀(rem:List Nat) (listed:Array Bool),listed.size=ops.size->(∀j,listed.getD j true=false↔j∈rem)->∀d,d<ops.size->(listed.getD d false=true↔d ∉ rem):=by
  intro rem listed hs hl d hd
  have h1:listed.getD d false=listed.getD d true:=by
   have:d<listed.size:=by omega
   simp[Array.getD,this]
  rw[h1,<-hl d];cases listed.getD d true<;>simp
 have hrd:∀(rem:List Nat) (listed:Array Bool),listed.size=ops.size->(∀j,listed.getD j true=false↔j∈rem)->∀i,
   (i∈Region.ready .any ops listed↔i∈rem/\∀d∈F3 ops i,d ∉ rem):=by
  intro rem listed hs hl i;rw[mem_ready,hl i];constructor
  ·rintro⟨h1,o,ho,h2⟩;refine⟨h1,fun d hd=>?_⟩;have hlt:=Ff hc (hin rem listed hs hl i h1) hd;have hds:=AqV hlt (hin rem listed hs hl i h1);obtain⟨e,he,hb,rfl⟩:=(FQ ho).1 hd;exact(hgd rem listed hs hl _ hds).1 (h2 e he hb)
  rintro⟨h1,h2⟩;have hi:=hin rem listed hs hl i h1;refine⟨h1,ops[i],Apr hi,fun e he hb=>?_⟩;have hd:e.on∈F3 ops i:=(FQ (Apr hi)).2 ⟨e,he,hb,rfl⟩;exact(hgd rem listed hs hl _ (AqV (Ff hc hi hd) hi)).2 (h2 _ hd)
 have hdone:∀(rem:List Nat) (listed:Array Bool),rem.Pairwise (·<·)->listed.size=ops.size->(∀j,listed.getD j true=false↔j∈rem)->Region.ready .any ops listed=[]->rem=[]:=by
  intro rem listed hp hs hl hr;cases rem with
  |nil=>rfl
  | cons i r=>
   have hi:i∈Region.ready .any ops listed:=(hrd _ listed hs hl i).2 ⟨Apu,fun d hd hm=>by
    have:=Ff hc (hin _ listed hs hl i Apu) hd;rcases Apx.1 hm with rfl|hm
    ·omega
    have:=ApB hp hm;omega⟩
   rw[hr]at hi;cases hi
 intro fuel
 induction fuel with
 |zero=>
  intro rem listed st a w g hf hp hs hl hd hst hr hq;have:rem=[]:=ApM.1 hf;subst this;simp only[AK,Ao7]at hst;subst hst;refine⟨?_,hq a w g hr (Evo.refl _ _ _ _) (GLe.refl _)⟩;rw[AqW];intro i hi;have:=((hrd _ listed hs hl i).1 hi).1;cases this
 | succ fuel ih=>
  intro rem listed st a w g hf hp hs hl hd hst hr hq;refine⟨fun h=>?_,fun i hi=>?_⟩
  ·have:=hdone rem listed hp hs hl h;subst this;simp at hf
  obtain⟨hir,hid⟩:=(hrd rem listed hs hl i).1 hi;have his:=hin rem listed hs hl i hir;obtain⟨l1,l2,rfl⟩:=Arn hir;have hp':=hp;rw[ApI]at hp';obtain⟨p1,p2,p3⟩:=hp'
  have hnd:∀j∈l1++l2,j≠i:=by
   intro j hj;rcases Aps.1 hj with hj|hj
   ·have:=p3 j hj i Apu;omega
   have:=ApB p2 hj;omega
  have hmem:∀j,j∈l1++l2↔j∈l1++i::l2/\j≠i:=by
   intro j;constructor
   ·intro hj;refine⟨?_,hnd j hj⟩;simp only[Aps,Apx]at hj ⊢;rcases hj with hj|hj
    ·exact .inl hj
    exact .inr (.inr hj)
   rintro⟨hj,hne⟩;simp only[Aps,Apx]at hj ⊢;rcases hj with hj|hj|hj
   ·exact .inl hj
   ·exact(hne hj).elim
   exact .inr hj
  obtain⟨st1,h1,h2⟩:=hfront i his l1 l2 st hp (fun j hj hT=>HM hc hd i his hid j hT (AqR _ hj)) hst;refine Oo hE hO (Apr his) h1 hr fun a1 w1 g1 hr1 he1 hg1=>?_
  refine ih (l1++l2) (listed.setIfInBounds i true) st1 a1 w1 g1 ?_ ?_ ?_ ?_ ?_ h2 hr1 ?_
  ·simp at hf ⊢;omega
  ·exact hp.sublist (AqT (Aq5 i l2) l1)
  ·simp[hs]
  ·intro j;rw[hmem j,<-hl j];by_cases e:j=i
   ·subst e;have:j<listed.size:=by omega
    simp[Array.getD,this]
   rw[getD_set_ne true (fun h=>e h.symm)];simp[e]
  ·intro k hk hkn d hdk hdm;have hd2:=((hmem d).1 hdm).1;by_cases e:k=i
   ·subst e;exact hid d hdk hd2
   exact hd k hk (fun h=>hkn ((hmem k).2 ⟨h,e⟩)) d hdk hd2
  intro a' w' g' hr' he' hg';exact hq a' w' g' hr' (he1.trans he') (hg1.trans hg')
def AaU:Op->Bool
 |.call _=>false
 |_=>true
structure CommY(E:Env)(orc:Option Tmp->Orc)(ops:Array Oper)(x y:Oper)(j:Nat)(frF:List AV):Prop where
  apart:x.apart ops y=true
  eff:NS E x.op=false
  call:AaU x.op=true
  keep:∀t,Operand.tmp t∈x.op.operands->∀k o,j<=k->ops[k]?=some o->o.dst≠some t
  same:∀(st:St) (u:AV) (σ2:Ac),Dz E orc ops y st.fr st.O=some (u,σ2)->(∀z∈x.op.operands,ev st.fr z=ev frF z)->(DX E st.fr st.O x.op).map (·.1)=(DX E st.fr σ2 x.op).map (·.1)
theorem EE{orc:Option Tmp->Orc}{ops:Array Oper}{t:Tmp}:∀(js:List Nat) (st st1:St),(∀k∈js,∀o,ops[k]?=some o->o.dst≠some t)->AK E orc ops js st=some st1->ev st1.fr (.tmp t)=ev st.fr (.tmp t)
 |[],st,st1,_,h=>by
  simp only[AK,Ao7]at h;subst h;rfl
 | i::js,st,st1,hk,h=>by
  unfold AK at h;cases hi:ops[i]? with
  |none=>simp[hi]at h
  |some x=>
   simp only[hi,Apa]at h;obtain⟨st2,h2,h3⟩:=h;rw[EE js st2 st1 (fun k hk'=>hk k (ApP _ hk')) h3];obtain⟨v,e⟩:=So h2;rw[e,Ke (hk i Apu x hi)]
theorem V3{orc:Option Tmp->Orc}{ops:Array Oper}{x y:Oper}{j:Nat}{frF:List AV}{st st1 st2:St}(hc:CommY E orc ops x y j frF)(hz:∀z∈x.op.operands,ev st.fr z=ev frF z) (h1:Bw E orc ops x st=some st1) (h2:Bw E orc ops y st1=some st2):∃st3,Bw E orc ops y st=some st3/\Bw E orc ops x st3=some st2:=by
 obtain⟨a1,a2,a3⟩:=Oper.apart_spec hc.apart
 have hfz:ED E ops x=false:=by
  cases hf:ED E ops x with
  |false=>rfl
  |true=>
   have:=hc.eff;rcases Dn hf with⟨t,n,l,e⟩|⟨s,d,z,e,hs⟩
   ·rw[e]at this;cases this
   rw[e]at this;simp only[NS]at this;rw[this]at hs;cases hs
 have hnb:Nl E ops x=false:=by unfold Nl;rw[hc.eff];rfl
 unfold Bw at h1 h2 ⊢;rw[Ao5]at h1 h2;obtain⟨⟨v,σ1⟩,hv,rfl⟩:=h1;obtain⟨⟨u,σ2⟩,hu,rfl⟩:=h2;simp only at hu ⊢;rw[AG a1]at hu;obtain rfl:=CH hnb hv;have hs:=hc.same st u σ2 hu hz
 have hx:Dz E orc ops x st.fr σ2=some (v,σ2):=by
  unfold Dz at hv ⊢
  have hop:∀O,Ca E (orc x.dst) x.op st.fr O=DX E st.fr O x.op:=by
   intro O;have:=hc.call;unfold Ca;split
   ·rename_i c e;rw[e]at this;cases this
   rfl
  have hfr:∀O,Fl (ED E ops x) O=some:=fun O=>by funext r;simp[Fl,hfz]
  cases hw:G8 ops st.fr x with
  |none=>simp[hw]at hv
  | some b=>
   cases b with
   |false=>simp only[hw,Ao7,Apf]at hv ⊢;exact⟨hv.1,trivial⟩
   | true=>
    simp only[hw,hop,hfr,Ba]at hv ⊢;rw[hv]at hs;simp only[ApG]at hs;cases he:DX E st.fr σ2 x.op with
    |none=>rw[he]at hs;cases hs
    |some r=>
     rw[he]at hs;obtain⟨r1,r2⟩:=r;simp only[ApG,Ao7]at hs;obtain rfl:=MB hc.eff he;rw[hs]
 refine⟨⟨Ay st.fr y.dst u,σ2⟩,by rw[hu];rfl,?_⟩;simp only;rw[AG a3,hx];simp only[ApG,CD st.fr v u a2]
theorem Mr{orc:Option Tmp->Orc}{ops:Array Oper}{i:Nat}{y:Oper}(hi:ops[i]?=some y){l2:List Nat}{st':St}:∀(l1:List Nat) (st:St),(l1++i::l2).Pairwise (·<·) ->(∀j∈l1,∀x,ops[j]?=some x->J9 E ops x y=true\/CommY E orc ops x y j st'.fr)->AK E orc ops (l1++i::l2) st=some st' ->∃st1,Bw E orc ops y st=some st1/\AK E orc ops (l1++l2) st1=some st'
 |[],st,_,_,h=>by
  simp only[ApR,AK,hi]at h;rw[Apa]at h;exact h
 | j :: l1,st,hp,hc,h0=>by
  have h:=h0;simp only[Apv,AK]at h;cases hj:ops[j]? with
  |none=>simp[hj]at h
  | some x=>
   simp only[hj]at h;rw[Apa]at h;obtain⟨s1,h1,h⟩:=h;rw[Apv]at hp;obtain⟨s2,h2,h⟩:=Mr hi l1 s1 (List.Pairwise.of_cons hp) (fun k hk=>hc k (ApP _ hk)) h
   have:∃st3,Bw E orc ops y st=some st3/\Bw E orc ops x st3=some s2:=by
    rcases hc j Apu x hj with hcb|hcy
    ·exact H2 hcb h1 h2
    refine V3 hcy (fun z hz=>?_) h1 h2;cases z with
    |tmp t=>
     refine(EE (j::(l1++i::l2)) st st' (fun k hk o ho=>hcy.keep t hz k o ?_ ho) h0).symm;rcases Apx.1 hk with rfl|hk
     ·exact Apm _
     exact ArM (ApB hp hk)
    |_=>rfl
   obtain⟨s3,h3,h4⟩:=this;refine⟨s3,h3,?_⟩;simp only[Apv,AK,hj,h4,Ap4];exact h
def JQ(E:Env)(o:Oper):Bool:=match o.op with
 |.call c=>Qr E c
 |_=>false
def Ab5(ops:Array Oper)(ts:List Nat)(j:Nat):Operand->Bool
 |.tmp t=>ts.contains t&&(List.range ops.size).all fun k=>k<j||(match ops[k]? with
  |some o=>o.dst != some t
  |none=>true)
 |_=>true
def Ab7(E:Env)(ops:Array Oper)(T:List (List Nat))(i0:Nat)(dy ts:List Nat):Bool :=
 (List.range ops.size).all fun i=>(List.range i).all fun j=>(T.getD i []).contains j||(match ops[j]?,ops[i]? with
  |some x,some y=>J9 E ops x y||(i==i0&&dy.contains j&&x.apart ops y&&!NS E x.op&&AaU x.op&&JQ E y&&x.op.operands.toList.all (Ab5 ops ts j))
  |_,_=>false)
def Aj7(E:Env)(n:Nat)(fr:Fr)(σ0 σ1:Ac)(l:List Oper):List Nat->Prop
 |[]=>True
 |j::js=>(match l[j]? with
  |some x=>(MU E (evL n fr) σ0 x.op).map (·.1)=(MU E (evL n fr) σ1 x.op).map (·.1)
  |none=>True)/\Aj7 E n fr σ0 σ1 l js
theorem ZG{n:Nat}{fr:Fr}{σ0 σ1:Ac}{l:List Oper}:∀{js:List Nat},Aj7 E n fr σ0 σ1 l js->∀j∈js,∀x,l[j]?=some x->(MU E (evL n fr) σ0 x.op).map (·.1)=(MU E (evL n fr) σ1 x.op).map (·.1)
 | k::js,h,j,hj,x,hx=>by
  rcases Apx.1 hj with rfl|hj
  ·have:=h.1;rw[hx]at this;exact this
  exact ZG h.2 j hj x hx
theorem Aca{t:Nat}{f f':FuncId}{a a':List AV}{r r':AV×Ac}(h:Q5 [(t,f,a,O,r)] (some t) f' a' O'=some r'):O'=O/\r'=r:=by
 simp only[Q5,ApT]at h;split at h
 ·rename_i hh;cases h;exact⟨hh.2.2,rfl⟩
 cases h
theorem D5:∀(ts:List Nat) (l:Fr) (t:Nat),t∈ts->look (keep ts l) t=look l t:=by
 intro ts l t ht
 induction ts with
 |nil=>cases ht
 | cons s ts ih=>
  show(if t=s then look l s else look (keep ts l) t)=_;by_cases e:t=s
  ·rw[Apb e,e]
  rw[Apd e];exact ih ((Apx.1 ht).resolve_left e)
theorem MN(hE:E.Ok)(hP:E.P.follows .mixedOrders=true){m n id:Nat}{l:List Oper}(T:List (List Nat))(hok1:EX l.toArray T=true)(i0:Nat)(dy ts:List Nat)(hok2:Ab7 E l.toArray T i0 dy ts=true){fr fr':Fr}{K:CO}(hw:Lm E m K) (h:∃fz t f a σ0 r σ1,(l[i0]?).bind (·.dst)=some t/\Aj7 E n fr' σ0 σ1 l dy/\He E.toBase (I6 fz [(t,f,a,σ0,r,σ1)])/\Hq E (I6 fz [(t,f,a,σ0,r,σ1)]) true n l ts (fr,O)=some (fr',O')) (hk:K .normal ⟨Ai n fr',O'⟩):Run E m (.region id l.toArray true) ⟨Ai n fr,O⟩ K:=by
 obtain⟨fz,t,f,a,σ0,r,σ1,hdst,hdyn,hO,h⟩:=h;simp only[Hq,Apa,Ao7,Apf]at h;obtain⟨⟨fr1,σ2⟩,h1,rfl,rfl⟩:=h;have hsteps:=EC (E:=E) (ops:=l.toArray) 0 l fr fr1 O σ2 (by simp) h1;rw[<-Ap9]at hsteps;intro hcm ac w g hr Q hq;refine Hr (Iu hcm) (wp_region_any hP ?_);have hsm:SameMem w { w with drawn:=w.drawn+1 }:=⟨rfl,rfl,rfl,rfl⟩;refine HC hE hO hok1 (st':=⟨Ai n fr1,σ2⟩) ?_ l.toArray.size (List.range l.length) _ ⟨Ai n fr,O⟩ ac _ g (by simp) Aqj (by simp) ?_ ?_ hsteps (HS hr hsm) ?_
 ·intro i his l1 l2 st hp hT hst;have hi:l.toArray[i]?=some l.toArray[i]:=Apr his;refine Mr hi l1 st hp (fun j hj x hx=>?_) hst
  have hji:j<i:=by
   rw[ApI]at hp;exact hp.2.2 j hj i Apu
  have h1':=As (As hok2 his) hji;simp only[ApN,Apo]at h1';rcases h1' with h1'|h1'
  ·exact(hT j hj h1').elim
  simp only[hx,hi,ApN,Apj,Aqg,Apo,Aqq]at h1';rcases h1' with h1'|⟨⟨⟨⟨⟨⟨e1,e2⟩,e3⟩,e4⟩,e5⟩,e6⟩,e7⟩
  ·exact .inl h1'
  refine .inr ⟨e3,e4,e5,fun u hu k o hjk hko=>?_,fun st2 u σ3 hval hz=>?_⟩
  ·have:=App.1 e7 _ (by simpa using hu);simp only[Ab5,Apj]at this;have h2:=As this.2 (Apl.1 hko).1;rw[hko]at h2;simp only[ApN,Apw,Are]at h2;rcases h2 with h2|h2
   ·omega
   exact h2
  subst e1;have hx':l[j]?=some x:=by simpa using hx
  have hd:l.toArray[i].dst=some t:=by
   have:l[i]?=some l.toArray[i]:=by simp
   rw[this]at hdst;exact hdst
  have hst2:st2.O=σ0/\σ3=σ1\/st2.O=σ3:=by
   unfold Dz at hval;cases hwn:G8 l.toArray st2.fr l.toArray[i]with
   |none=>rw[hwn]at hval;cases hval
   | some b=>
    cases b with
    |false=>rw[hwn]at hval;cases hval;exact .inr rfl
    | true=>
     rw[hwn]at hval;simp only at hval
     have hfz:ED E l.toArray l.toArray[i]=false:=by
      unfold JQ at e6;unfold ED;split
      ·split
       ·rename_i ee;rw[ee]at e6;cases e6
       ·rename_i ee;rw[ee]at e6;cases e6
       rfl
      rfl
     have hfr:Fl (ED E l.toArray l.toArray[i]) st2.O=some:=by rw[hfz];funext q;simp[Fl]
     rw[hfr,Ba]at hval;unfold JQ at e6;unfold Ca at hval;split at e6
     case h_2=>cases e6
     rename_i c ec;simp only[ec]at hval;split at hval
     ·rename_i bi eb;unfold Qr at e6;rw[eb]at e6;cases e6
     rw[Apb e6]at hval;obtain⟨_,_,hval⟩:=TU hval;rw[hd]at hval;have hval':Q5 [(t,f,a,σ0,r,σ1)] (some t) _ _ st2.O=some (u,σ3):=hval;obtain⟨q1,q2⟩:=Aca hval';cases q2;exact .inl ⟨q1,rfl⟩
  rcases hst2 with⟨q1,q2⟩|q
  ·have hdj:=ZG hdyn j e2 x hx'
   have hev:∀O,DX E st2.fr O x.op=MU E (evL n (keep ts fr1)) O x.op:=by
    intro O;rw[<-CN,<-RC];refine MJ fun z hz'=>?_
    rw[hz z hz'];cases z with
    |tmp u=>
     have:=App.1 e7 _ (by simpa using hz');simp only[Ab5,Apj,Apo]at this;rw[CN,CN];show(if u<n then look fr1 u else .junk)=if u<n then look (keep ts fr1) u else .junk
     rw[D5 ts fr1 u this.1]
    |_=>rfl
   rw[hev,hev,q1,q2];exact hdj
  rw[q]
 ·intro j;rw[ApS];by_cases h:j<l.length<;>simp[Array.getD,h]
 ·intro k hk hkn;exact(hkn (ApS.2 (by simpa using hk))).elim
 intro a' w' g' hr' he hg;exact hq _ _ _ _ _ (hw _ _ (Dh _ _ _ _ _) hk) hr' ((Evo.same hsm).trans (he.of_gle hg))
theorem Ab2(hE:E.Ok)(hP:E.P.follows .mixedOrders=true){m n id:Nat}{l:List Oper}(T:List (List Nat))(hok1:EX l.toArray T=true)(i0:Nat)(dy ts:List Nat)(hok2:Ab7 E l.toArray T i0 dy ts=true){fr fr':Fr}{K:CO} (h:∃fz t f a σ0 r σ1,(l[i0]?).bind (·.dst)=some t/\Aj7 E n fr' σ0 σ1 l dy/\He E.toBase (I6 fz [(t,f,a,σ0,r,σ1)])/\Hq E (I6 fz [(t,f,a,σ0,r,σ1)]) true n l ts (fr,O)=some (fr',O')) {y:Code} (hk:Run E m y ⟨Ai n fr',O'⟩ K):Run E m (.seq (.region id l.toArray true) y) ⟨Ai n fr,O⟩ K :=
 Hh (MN hE hP T hok1 i0 dy ts hok2 Ea h hk)
attribute [go_sem] Aj7
end Go.Rv
