/-
  Part 29.
-/
import Derived.Test.YtldngkmkhfddpaaGreatDoorYV28
namespace Go.Rv
set_option linter.unusedVariables false
set_option linter.unusedSimpArgs false
variable{O O':Ad}
variable {E:Env}
theorem H6(hE:E.Ok){orc:Option Tmp->Orc}(hO:∀d,Pb E.toBase (orc d)){ops:Array Oper}{T:List (List Nat)}(hc:FO ops T=true){st':St}(hfront:∀(i:Nat) (his:i<ops.size) (l1 l2:List Nat) (st:St),(l1++i::l2).Pairwise (·<·)->(∀j∈l1,j ∉ T.getD i [])->AO E orc ops (l1++i::l2) st=some st' ->∃st1,B6 E orc ops ops[i] st=some st1/\AO E orc ops (l1++l2) st1=some st') {Q:Exit->Act->World->Prop} :∀(fuel:Nat) (rem:List Nat) (listed:Array Bool) (st:St) (a:Act) (w:World) (g:Gh),rem.length=fuel->rem.Pairwise (·<·)->listed.size=ops.size ->(∀j,listed.getD j true=false↔j∈rem)->(∀k,k<ops.size->k ∉ rem->∀d∈F4 ops k,d ∉ rem) ->AO E orc ops rem st=some st'->Rel E w g st a->(∀a' w' g',Rel E w' g' st' a'->Evo E 0 w g w' g'->GLe g g'->Q .normal a' w') ->wpAny E.P .any ops Q fuel listed a w:=by
 have hin:∀(rem:List Nat) (listed:Array Bool),listed.size=ops.size->(∀j,listed.getD j true=false↔j∈rem)->∀j∈rem,j<ops.size:=by
  intro rem listed hs hl j hj;have:=(hl j).2 hj;by_cases e:j<listed.size
  ·omega
  simp[Array.getD,e]at this
 have hgd:∀(rem:List Nat) (listed:Array Bool),listed.size=ops.size->(∀j,listed.getD j true=false↔j∈rem)->∀d,d<ops.size->(listed.getD d false=true↔d ∉ rem):=by
  intro rem listed hs hl d hd
  have h1:listed.getD d false=listed.getD d true:=by
   have:d<listed.size:=by omega
   simp[Array.getD,this]
  rw[h1,<-hl d];cases listed.getD d true<;>simp
 have hrd:∀(rem:List Nat) (listed:Array Bool),listed.size=ops.size->(∀j,listed.getD j true=false↔j∈rem)->∀i,
   (i∈Region.ready .any ops listed↔i∈rem/\∀d∈F4 ops i,d ∉ rem):=by
  intro rem listed hs hl i;rw[mem_ready,hl i];constructor
  ·rintro⟨h1,o,ho,h2⟩;refine⟨h1,fun d hd=>?_⟩;have hlt:=EY hc (hin rem listed hs hl i h1) hd;have hds:=AqO hlt (hin rem listed hs hl i h1);obtain⟨e,he,hb,rfl⟩:=(FT ho).1 hd;exact(hgd rem listed hs hl _ hds).1 (h2 e he hb)
  rintro⟨h1,h2⟩;have hi:=hin rem listed hs hl i h1;refine⟨h1,ops[i],Apk hi,fun e he hb=>?_⟩;have hd:e.on∈F4 ops i:=(FT (Apk hi)).2 ⟨e,he,hb,rfl⟩;exact(hgd rem listed hs hl _ (AqO (EY hc hi hd) hi)).2 (h2 _ hd)
 have hdone:∀(rem:List Nat) (listed:Array Bool),rem.Pairwise (·<·)->listed.size=ops.size->(∀j,listed.getD j true=false↔j∈rem)->Region.ready .any ops listed=[]->rem=[]:=by
  intro rem listed hp hs hl hr;cases rem with
  |nil=>rfl
  | cons i r=>
   have hi:i∈Region.ready .any ops listed:=(hrd _ listed hs hl i).2 ⟨Apn,fun d hd hm=>by
    have:=EY hc (hin _ listed hs hl i Apn) hd;rcases Apq.1 hm with rfl|hm
    ·omega
    have:=Apt hp hm;omega⟩
   rw[hr]at hi;cases hi
 intro fuel
 induction fuel with
 |zero=>
  intro rem listed st a w g hf hp hs hl hd hst hr hq;have:rem=[]:=ApF.1 hf;subst this;simp only[AO,Ao0]at hst;subst hst;refine⟨?_,hq a w g hr (Evo.refl _ _ _ _) (GLe.refl _)⟩;rw[AqP];intro i hi;have:=((hrd _ listed hs hl i).1 hi).1;cases this
 | succ fuel ih=>
  intro rem listed st a w g hf hp hs hl hd hst hr hq;refine⟨fun h=>?_,fun i hi=>?_⟩
  ·have:=hdone rem listed hp hs hl h;subst this;simp at hf
  obtain⟨hir,hid⟩:=(hrd rem listed hs hl i).1 hi;have his:=hin rem listed hs hl i hir;obtain⟨l1,l2,rfl⟩:=Arf hir;have hp':=hp;rw[ApB]at hp';obtain⟨p1,p2,p3⟩:=hp'
  have hnd:∀j∈l1++l2,j≠i:=by
   intro j hj;rcases Apl.1 hj with hj|hj
   ·have:=p3 j hj i Apn;omega
   have:=Apt p2 hj;omega
  have hmem:∀j,j∈l1++l2↔j∈l1++i::l2/\j≠i:=by
   intro j;constructor
   ·intro hj;refine⟨?_,hnd j hj⟩;simp only[Apl,Apq]at hj ⊢;rcases hj with hj|hj
    ·exact .inl hj
    exact .inr (.inr hj)
   rintro⟨hj,hne⟩;simp only[Apl,Apq]at hj ⊢;rcases hj with hj|hj|hj
   ·exact .inl hj
   ·exact(hne hj).elim
   exact .inr hj
  obtain⟨st1,h1,h2⟩:=hfront i his l1 l2 st hp (fun j hj hT=>HH hc hd i his hid j hT (AqK _ hj)) hst;refine On hE hO (Apk his) h1 hr fun a1 w1 g1 hr1 he1 hg1=>?_
  refine ih (l1++l2) (listed.setIfInBounds i true) st1 a1 w1 g1 ?_ ?_ ?_ ?_ ?_ h2 hr1 ?_
  ·simp at hf ⊢;omega
  ·exact hp.sublist (AqM (AqY i l2) l1)
  ·simp[hs]
  ·intro j;rw[hmem j,<-hl j];by_cases e:j=i
   ·subst e;have:j<listed.size:=by omega
    simp[Array.getD,this]
   rw[getD_set_ne true (fun h=>e h.symm)];simp[e]
  ·intro k hk hkn d hdk hdm;have hd2:=((hmem d).1 hdm).1;by_cases e:k=i
   ·subst e;exact hid d hdk hd2
   exact hd k hk (fun h=>hkn ((hmem k).2 ⟨h,e⟩)) d hdk hd2
  intro a' w' g' hr' he' hg';exact hq a' w' g' hr' (he1.trans he') (hg1.trans hg')
def Acz:Op->Bool
 |.call _=>false
 |_=>true
structure CommY(E:Env)(orc:Option Tmp->Orc)(ops:Array Oper)(x y:Oper)(j:Nat)(frF:List AV):Prop where
  apart:x.apart ops y=true
  eff:Oa E x.op=false
  call:Acz x.op=true
  keep:∀t,Operand.tmp t∈x.op.operands->∀k o,j<=k->ops[k]?=some o->o.dst≠some t
  same:∀(st:St) (u:AV) (σ2:Ad),D2 E orc ops y st.fr st.O=some (u,σ2)->(∀z∈x.op.operands,ev st.fr z=ev frF z)->(Ec E st.fr st.O x.op).map (·.1)=(Ec E st.fr σ2 x.op).map (·.1)
theorem EU{orc:Option Tmp->Orc}{ops:Array Oper}{t:Tmp}:∀(js:List Nat) (st st1:St),(∀k∈js,∀o,ops[k]?=some o->o.dst≠some t)->AO E orc ops js st=some st1->ev st1.fr (.tmp t)=ev st.fr (.tmp t)
 |[],st,st1,_,h=>by
  simp only[AO,Ao0]at h;subst h;rfl
 | i::js,st,st1,hk,h=>by
  unfold AO at h;cases hi:ops[i]? with
  |none=>simp[hi]at h
  |some x=>
   simp only[hi,Ao3]at h;obtain⟨st2,h2,h3⟩:=h;rw[EU js st2 st1 (fun k hk'=>hk k (ApI _ hk')) h3];obtain⟨v,e⟩:=Re h2;rw[e,Km (hk i Apn x hi)]
theorem VN{orc:Option Tmp->Orc}{ops:Array Oper}{x y:Oper}{j:Nat}{frF:List AV}{st st1 st2:St}(hc:CommY E orc ops x y j frF)(hz:∀z∈x.op.operands,ev st.fr z=ev frF z) (h1:B6 E orc ops x st=some st1) (h2:B6 E orc ops y st1=some st2):∃st3,B6 E orc ops y st=some st3/\B6 E orc ops x st3=some st2:=by
 obtain⟨a1,a2,a3⟩:=Oper.apart_spec hc.apart
 have hfz:ES E ops x=false:=by
  cases hf:ES E ops x with
  |false=>rfl
  |true=>
   have:=hc.eff;rcases Dq hf with⟨t,n,l,e⟩|⟨s,d,z,e,hs⟩
   ·rw[e]at this;cases this
   rw[e]at this;simp only[Oa]at this;rw[this]at hs;cases hs
 have hnb:MK E ops x=false:=by unfold MK;rw[hc.eff];rfl
 unfold B6 at h1 h2 ⊢;rw[AoY]at h1 h2;obtain⟨⟨v,σ1⟩,hv,rfl⟩:=h1;obtain⟨⟨u,σ2⟩,hu,rfl⟩:=h2;simp only at hu ⊢;rw[AK a1]at hu;obtain rfl:=CO hnb hv;have hs:=hc.same st u σ2 hu hz
 have hx:D2 E orc ops x st.fr σ2=some (v,σ2):=by
  unfold D2 at hv ⊢
  have hop:∀O,Cl E (orc x.dst) x.op st.fr O=Ec E st.fr O x.op:=by
   intro O;have:=hc.call;unfold Cl;split
   ·rename_i c e;rw[e]at this;cases this
   rfl
  have hfr:∀O,Fu (ES E ops x) O=some:=fun O=>by funext r;simp[Fu,hfz]
  cases hw:G9 ops st.fr x with
  |none=>simp[hw]at hv
  | some b=>
   cases b with
   |false=>simp only[hw,Ao0,Apa]at hv ⊢;exact⟨hv.1,trivial⟩
   | true=>
    simp only[hw,hop,hfr,Bh]at hv ⊢;rw[hv]at hs;simp only[Apz]at hs;cases he:Ec E st.fr σ2 x.op with
    |none=>rw[he]at hs;cases hs
    |some r=>
     rw[he]at hs;obtain⟨r1,r2⟩:=r;simp only[Apz,Ao0]at hs;obtain rfl:=Ng hc.eff he;rw[hs]
 refine⟨⟨Ay st.fr y.dst u,σ2⟩,by rw[hu];rfl,?_⟩;simp only;rw[AK a3,hx];simp only[Apz,CI st.fr v u a2]
theorem Mp{orc:Option Tmp->Orc}{ops:Array Oper}{i:Nat}{y:Oper}(hi:ops[i]?=some y){l2:List Nat}{st':St}:∀(l1:List Nat) (st:St),(l1++i::l2).Pairwise (·<·) ->(∀j∈l1,∀x,ops[j]?=some x->Jq E ops x y=true\/CommY E orc ops x y j st'.fr)->AO E orc ops (l1++i::l2) st=some st' ->∃st1,B6 E orc ops y st=some st1/\AO E orc ops (l1++l2) st1=some st'
 |[],st,_,_,h=>by
  simp only[ApN,AO,hi]at h;rw[Ao3]at h;exact h
 | j :: l1,st,hp,hc,h0=>by
  have h:=h0;simp only[Apo,AO]at h;cases hj:ops[j]? with
  |none=>simp[hj]at h
  | some x=>
   simp only[hj]at h;rw[Ao3]at h;obtain⟨s1,h1,h⟩:=h;rw[Apo]at hp;obtain⟨s2,h2,h⟩:=Mp hi l1 s1 (List.Pairwise.of_cons hp) (fun k hk=>hc k (ApI _ hk)) h
   have:∃st3,B6 E orc ops y st=some st3/\B6 E orc ops x st3=some s2:=by
    rcases hc j Apn x hj with hcb|hcy
    ·exact H5 hcb h1 h2
    refine VN hcy (fun z hz=>?_) h1 h2;cases z with
    |tmp t=>
     refine(EU (j::(l1++i::l2)) st st' (fun k hk o ho=>hcy.keep t hz k o ?_ ho) h0).symm;rcases Apq.1 hk with rfl|hk
     ·exact Apf _
     exact ArF (Apt hp hk)
    |_=>rfl
   obtain⟨s3,h3,h4⟩:=this;refine⟨s3,h3,?_⟩;simp only[Apo,AO,hj,h4,ApX];exact h
def Ks(E:Env)(o:Oper):Bool:=match o.op with
 |.call c=>Qd E c
 |_=>false
def Abw(ops:Array Oper)(ts:List Nat)(j:Nat):Operand->Bool
 |.tmp t=>ts.contains t&&(List.range ops.size).all fun k=>k<j||(match ops[k]? with
  |some o=>o.dst != some t
  |none=>true)
 |_=>true
def ZB(E:Env)(ops:Array Oper)(T:List (List Nat))(i0:Nat)(dy ts:List Nat):Bool :=
 (List.range ops.size).all fun i=>(List.range i).all fun j=>(T.getD i []).contains j||(match ops[j]?,ops[i]? with
  |some x,some y=>Jq E ops x y||(i==i0&&dy.contains j&&x.apart ops y&&!Oa E x.op&&Acz x.op&&Ks E y&&x.op.operands.toList.all (Abw ops ts j))
  |_,_=>false)
def Akt(E:Env)(n:Nat)(fr:Fr)(σ0 σ1:Ad)(l:List Oper):List Nat->Prop
 |[]=>True
 |j::js=>(match l[j]? with
  |some x=>(Nc E (evL n fr) σ0 x.op).map (·.1)=(Nc E (evL n fr) σ1 x.op).map (·.1)
  |none=>True)/\Akt E n fr σ0 σ1 l js
theorem AaI{n:Nat}{fr:Fr}{σ0 σ1:Ad}{l:List Oper}:∀{js:List Nat},Akt E n fr σ0 σ1 l js->∀j∈js,∀x,l[j]?=some x->(Nc E (evL n fr) σ0 x.op).map (·.1)=(Nc E (evL n fr) σ1 x.op).map (·.1)
 | k::js,h,j,hj,x,hx=>by
  rcases Apq.1 hj with rfl|hj
  ·have:=h.1;rw[hx]at this;exact this
  exact AaI h.2 j hj x hx
theorem Aa8{t:Nat}{f f':FuncId}{a a':List AV}{r r':AV×Ad}(h:Q9 [(t,f,a,O,r)] (some t) f' a' O'=some r'):O'=O/\r'=r:=by
 simp only[Q9,ApL]at h;split at h
 ·rename_i hh;cases h;exact⟨hh.2.2,rfl⟩
 cases h
theorem DA:∀(ts:List Nat) (l:Fr) (t:Nat),t∈ts->look (keep ts l) t=look l t:=by
 intro ts l t ht
 induction ts with
 |nil=>cases ht
 | cons s ts ih=>
  show(if t=s then look l s else look (keep ts l) t)=_;by_cases e:t=s
  ·rw[Ao4 e,e]
  rw[Ao6 e];exact ih ((Apq.1 ht).resolve_left e)
theorem MU(hE:E.Ok)(hP:E.P.follows .mixedOrders=true){m n id:Nat}{l:List Oper}(T:List (List Nat))(hok1:FO l.toArray T=true)(i0:Nat)(dy ts:List Nat)(hok2:ZB E l.toArray T i0 dy ts=true){fr fr':Fr}{K:CX}(hw:LW E m K) (h:∃fz t f a σ0 r σ1,(l[i0]?).bind (·.dst)=some t/\Akt E n fr' σ0 σ1 l dy/\Hh E.toBase (LA fz [(t,f,a,σ0,r,σ1)])/\HT E (LA fz [(t,f,a,σ0,r,σ1)]) true n l ts (fr,O)=some (fr',O')) (hk:K .normal ⟨Al n fr',O'⟩):Run E m (.region id l.toArray true) ⟨Al n fr,O⟩ K:=by
 obtain⟨fz,t,f,a,σ0,r,σ1,hdst,hdyn,hO,h⟩:=h;simp only[HT,Ao3,Ao0,Apa]at h;obtain⟨⟨fr1,σ2⟩,h1,rfl,rfl⟩:=h;have hsteps:=EO (E:=E) (ops:=l.toArray) 0 l fr fr1 O σ2 (by simp) h1;rw[<-Ap1]at hsteps;intro hcm ac w g hr Q hq;refine Hv (ID hcm) (wp_region_any hP ?_);have hsm:SameMem w { w with drawn:=w.drawn+1 }:=⟨rfl,rfl,rfl,rfl⟩;refine H6 hE hO hok1 (st':=⟨Al n fr1,σ2⟩) ?_ l.toArray.size (List.range l.length) _ ⟨Al n fr,O⟩ ac _ g (by simp) Aqc (by simp) ?_ ?_ hsteps (Io hr hsm) ?_
 ·intro i his l1 l2 st hp hT hst;have hi:l.toArray[i]?=some l.toArray[i]:=Apk his;refine Mp hi l1 st hp (fun j hj x hx=>?_) hst
  have hji:j<i:=by
   rw[ApB]at hp;exact hp.2.2 j hj i Apn
  have h1':=As (As hok2 his) hji;simp only[ApG,Apg]at h1';rcases h1' with h1'|h1'
  ·exact(hT j hj h1').elim
  simp only[hx,hi,ApG,Ape,Ap9,Apg,Aqj]at h1';rcases h1' with h1'|⟨⟨⟨⟨⟨⟨e1,e2⟩,e3⟩,e4⟩,e5⟩,e6⟩,e7⟩
  ·exact .inl h1'
  refine .inr ⟨e3,e4,e5,fun u hu k o hjk hko=>?_,fun st2 u σ3 hval hz=>?_⟩
  ·have:=Api.1 e7 _ (by simpa using hu);simp only[Abw,Ape]at this;have h2:=As this.2 (Apd.1 hko).1;rw[hko]at h2;simp only[ApG,App,Aq5]at h2;rcases h2 with h2|h2
   ·omega
   exact h2
  subst e1;have hx':l[j]?=some x:=by simpa using hx
  have hd:l.toArray[i].dst=some t:=by
   have:l[i]?=some l.toArray[i]:=by simp
   rw[this]at hdst;exact hdst
  have hst2:st2.O=σ0/\σ3=σ1\/st2.O=σ3:=by
   unfold D2 at hval;cases hwn:G9 l.toArray st2.fr l.toArray[i]with
   |none=>rw[hwn]at hval;cases hval
   | some b=>
    cases b with
    |false=>rw[hwn]at hval;cases hval;exact .inr rfl
    | true=>
     rw[hwn]at hval;simp only at hval
     have hfz:ES E l.toArray l.toArray[i]=false:=by
      unfold Ks at e6;unfold ES;split
      ·split
       ·rename_i ee;rw[ee]at e6;cases e6
       ·rename_i ee;rw[ee]at e6;cases e6
       rfl
      rfl
     have hfr:Fu (ES E l.toArray l.toArray[i]) st2.O=some:=by rw[hfz];funext q;simp[Fu]
     rw[hfr,Bh]at hval;unfold Ks at e6;unfold Cl at hval;split at e6
     case h_2=>cases e6
     rename_i c ec;simp only[ec]at hval;split at hval
     ·rename_i bi eb;unfold Qd at e6;rw[eb]at e6;cases e6
     rw[Ao4 e6]at hval;obtain⟨_,_,hval⟩:=SX hval;rw[hd]at hval;have hval':Q9 [(t,f,a,σ0,r,σ1)] (some t) _ _ st2.O=some (u,σ3):=hval;obtain⟨q1,q2⟩:=Aa8 hval';cases q2;exact .inl ⟨q1,rfl⟩
  rcases hst2 with⟨q1,q2⟩|q
  ·have hdj:=AaI hdyn j e2 x hx'
   have hev:∀O,Ec E st2.fr O x.op=Nc E (evL n (keep ts fr1)) O x.op:=by
    intro O;rw[<-CS,<-RW];refine Ni fun z hz'=>?_
    rw[hz z hz'];cases z with
    |tmp u=>
     have:=Api.1 e7 _ (by simpa using hz');simp only[Abw,Ape,Apg]at this;rw[CS,CS];show(if u<n then look fr1 u else .junk)=if u<n then look (keep ts fr1) u else .junk
     rw[DA ts fr1 u this.1]
    |_=>rfl
   rw[hev,hev,q1,q2];exact hdj
  rw[q]
 ·intro j;rw[ApK];by_cases h:j<l.length<;>simp[Array.getD,h]
 ·intro k hk hkn;exact(hkn (ApK.2 (by simpa using hk))).elim
 intro a' w' g' hr' he hg;exact hq _ _ _ _ _ (hw _ _ (Do _ _ _ _ _) hk) hr' ((Evo.same hsm).trans (he.of_gle hg))
theorem Abz(hE:E.Ok)(hP:E.P.follows .mixedOrders=true){m n id:Nat}{l:List Oper}(T:List (List Nat))(hok1:FO l.toArray T=true)(i0:Nat)(dy ts:List Nat)(hok2:ZB E l.toArray T i0 dy ts=true){fr fr':Fr}{K:CX} (h:∃fz t f a σ0 r σ1,(l[i0]?).bind (·.dst)=some t/\Akt E n fr' σ0 σ1 l dy/\Hh E.toBase (LA fz [(t,f,a,σ0,r,σ1)])/\HT E (LA fz [(t,f,a,σ0,r,σ1)]) true n l ts (fr,O)=some (fr',O')) {y:Code} (hk:Run E m y ⟨Al n fr',O'⟩ K):Run E m (.seq (.region id l.toArray true) y) ⟨Al n fr,O⟩ K :=
 Hl (MU hE hP T hok1 i0 dy ts hok2 E6 h hk)
attribute [go_sem] Akt
end Go.Rv
