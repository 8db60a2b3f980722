/-
  Part 29.
-/
import Derived.Test.YtldngkmkhfddpaaGreatDoorYW28
namespace Go.Rv
set_option linter.unusedVariables false
set_option linter.unusedSimpArgs false
variable{O O':Ac}
variable {E:Env}
theorem J9(hE:E.Ok){orc:Option Tmp->Orc}(hO:∀d,Qm E.toBase (orc d)){ops:Array Oper}{T:List (List Nat)}(hc:F3 ops T=true){st':St}(hfront:∀(i:Nat) (his:i<ops.size) (l1 l2:List Nat) (st:St),(l1++i::l2).Pairwise (·<·)->(∀j∈l1,j ∉ T.getD i [])->Bh E orc ops (l1++i::l2) st=some st' ->∃st1,Cc E orc ops ops[i] st=some st1/\Bh E orc ops (l1++l2) st1=some st') {Q:Exit->Act->World->Prop} :∀(fuel:Nat) (rem:List Nat) (listed:Array Bool) (st:St) (a:Act) (w:World) (g:Gh),rem.length=fuel->rem.Pairwise (·<·)->listed.size=ops.size ->(∀j,listed.getD j true=false↔j∈rem)->(∀k,k<ops.size->k ∉ rem->∀d∈FA ops k,d ∉ rem) ->Bh E orc ops rem st=some st'->Rel E w g st a->(∀a' w' g',Rel E w' g' st' a'->Evo E 0 w g w' g'->GLe g g'->Q .normal a' w') ->wpAny E.P .any ops Q fuel listed a w:=by
 have hin:∀(rem:List Nat) (listed:Array Bool),listed.size=ops.size->(∀j,listed.getD j true=false↔j∈rem)->∀j∈rem,j<ops.size:=by
  intro rem listed hs hl j hj;have:=(hl j).2 hj;by_cases e:j<listed.size
  ·omega
  simp[Array.getD,e]at this
 have hgd:∀(rem:List Nat) (listed:Array Bool),listed.size=ops.size->(∀j,listed.getD j true=false↔j∈rem)->∀d,d<ops.size->(listed.getD d false=true↔d ∉ rem):=by
  intro rem listed hs hl d hd
  have h1:listed.getD d false=listed.getD d true:=by
   have:d<listed.size:=by omega
   simp[Array.getD,this]
  rw[h1,<-hl d];cases listed.getD d true<;>simp
 have hrd:∀(rem:List Nat) (listed:Array Bool),listed.size=ops.size->(∀j,listed.getD j true=false↔j∈rem)->∀i,
   (i∈Region.ready .any ops listed↔i∈rem/\∀d∈FA ops i,d ∉ rem):=by
  intro rem listed hs hl i;rw[mem_ready,hl i];constructor
  ·rintro⟨h1,o,ho,h2⟩;refine⟨h1,fun d hd=>?_⟩;have hlt:=Fg hc (hin rem listed hs hl i h1) hd;have hds:=Asy hlt (hin rem listed hs hl i h1);obtain⟨e,he,hb,rfl⟩:=(Gg ho).1 hd;exact(hgd rem listed hs hl _ hds).1 (h2 e he hb)
  rintro⟨h1,h2⟩;have hi:=hin rem listed hs hl i h1;refine⟨h1,ops[i],Aq2 hi,fun e he hb=>?_⟩;have hd:e.on∈FA ops i:=(Gg (Aq2 hi)).2 ⟨e,he,hb,rfl⟩;exact(hgd rem listed hs hl _ (Asy (Fg hc hi hd) hi)).2 (h2 _ hd)
 have hdone:∀(rem:List Nat) (listed:Array Bool),rem.Pairwise (·<·)->listed.size=ops.size->(∀j,listed.getD j true=false↔j∈rem)->Region.ready .any ops listed=[]->rem=[]:=by
  intro rem listed hp hs hl hr;cases rem with
  |nil=>rfl
  | cons i r=>
   have hi:i∈Region.ready .any ops listed:=(hrd _ listed hs hl i).2 ⟨Aq4,fun d hd hm=>by
    have:=Fg hc (hin _ listed hs hl i Aq4) hd;rcases Aq9.1 hm with rfl|hm
    ·omega
    have:=Arf hp hm;omega⟩
   rw[hr]at hi;cases hi
 intro fuel
 induction fuel with
 |zero=>
  intro rem listed st a w g hf hp hs hl hd hst hr hq;have:rem=[]:=Ari.1 hf;subst this;simp only[Bh,AqG]at hst;subst hst;refine⟨?_,hq a w g hr (Evo.refl _ _ _ _) (GLe.refl _)⟩;rw[Asz];intro i hi;have:=((hrd _ listed hs hl i).1 hi).1;cases this
 | succ fuel ih=>
  intro rem listed st a w g hf hp hs hl hd hst hr hq;refine⟨fun h=>?_,fun i hi=>?_⟩
  ·have:=hdone rem listed hp hs hl h;subst this;simp at hf
  obtain⟨hir,hid⟩:=(hrd rem listed hs hl i).1 hi;have his:=hin rem listed hs hl i hir;obtain⟨l1,l2,rfl⟩:=AsY hir;have hp':=hp;rw[Ark]at hp';obtain⟨p1,p2,p3⟩:=hp'
  have hnd:∀j∈l1++l2,j≠i:=by
   intro j hj;rcases Aq3.1 hj with hj|hj
   ·have:=p3 j hj i Aq4;omega
   have:=Arf p2 hj;omega
  have hmem:∀j,j∈l1++l2↔j∈l1++i::l2/\j≠i:=by
   intro j;constructor
   ·intro hj;refine⟨?_,hnd j hj⟩;simp only[Aq3,Aq9]at hj ⊢;rcases hj with hj|hj
    ·exact .inl hj
    exact .inr (.inr hj)
   rintro⟨hj,hne⟩;simp only[Aq3,Aq9]at hj ⊢;rcases hj with hj|hj|hj
   ·exact .inl hj
   ·exact(hne hj).elim
   exact .inr hj
  obtain⟨st1,h1,h2⟩:=hfront i his l1 l2 st hp (fun j hj hT=>HL hc hd i his hid j hT (Asu _ hj)) hst;refine OH hE hO (Aq2 his) h1 hr fun a1 w1 g1 hr1 he1 hg1=>?_
  refine ih (l1++l2) (listed.setIfInBounds i true) st1 a1 w1 g1 ?_ ?_ ?_ ?_ ?_ h2 hr1 ?_
  ·simp at hf ⊢;omega
  ·exact hp.sublist (Asx (AsE i l2) l1)
  ·simp[hs]
  ·intro j;rw[hmem j,<-hl j];by_cases e:j=i
   ·subst e;have:j<listed.size:=by omega
    simp[Array.getD,this]
   rw[getD_set_ne true (fun h=>e h.symm)];simp[e]
  ·intro k hk hkn d hdk hdm;have hd2:=((hmem d).1 hdm).1;by_cases e:k=i
   ·subst e;exact hid d hdk hd2
   exact hd k hk (fun h=>hkn ((hmem k).2 ⟨h,e⟩)) d hdk hd2
  intro a' w' g' hr' he' hg';exact hq a' w' g' hr' (he1.trans he') (hg1.trans hg')
def AcT:Op->Bool
 |.call _=>false
 |_=>true
structure CommY(E:Env)(orc:Option Tmp->Orc)(ops:Array Oper)(x y:Oper)(j:Nat)(frF:List AV):Prop where
  apart:x.apart ops y=true
  eff:O2 E x.op=false
  call:AcT x.op=true
  keep:∀t,Operand.tmp t∈x.op.operands->∀k o,j<=k->ops[k]?=some o->o.dst≠some t
  same:∀(st:St) (u:AV) (σ2:Ac),DP E orc ops y st.fr st.O=some (u,σ2)->(∀z∈x.op.operands,ev st.fr z=ev frF z)->(EF E st.fr st.O x.op).map (·.1)=(EF E st.fr σ2 x.op).map (·.1)
theorem Hf{orc:Option Tmp->Orc}{ops:Array Oper}{t:Tmp}:∀(js:List Nat) (st st1:St),(∀k∈js,∀o,ops[k]?=some o->o.dst≠some t)->Bh E orc ops js st=some st1->ev st1.fr (.tmp t)=ev st.fr (.tmp t)
 |[],st,st1,_,h=>by
  simp only[Bh,AqG]at h;subst h;rfl
 | i::js,st,st1,hk,h=>by
  unfold Bh at h;cases hi:ops[i]? with
  |none=>simp[hi]at h
  |some x=>
   simp only[hi,AqK]at h;obtain⟨st2,h2,h3⟩:=h;rw[Hf js st2 st1 (fun k hk'=>hk k (Arn _ hk')) h3];obtain⟨v,e⟩:=RD h2;rw[e,KI (hk i Aq4 x hi)]
theorem VD{orc:Option Tmp->Orc}{ops:Array Oper}{x y:Oper}{j:Nat}{frF:List AV}{st st1 st2:St}(hc:CommY E orc ops x y j frF)(hz:∀z∈x.op.operands,ev st.fr z=ev frF z) (h1:Cc E orc ops x st=some st1) (h2:Cc E orc ops y st1=some st2):∃st3,Cc E orc ops y st=some st3/\Cc E orc ops x st3=some st2:=by
 obtain⟨a1,a2,a3⟩:=Oper.apart_spec hc.apart
 have hfz:F6 E ops x=false:=by
  cases hf:F6 E ops x with
  |false=>rfl
  |true=>
   have:=hc.eff;rcases Dz hf with⟨t,n,l,e⟩|⟨s,d,z,e,hs⟩
   ·rw[e]at this;cases this
   rw[e]at this;simp only[O2]at this;rw[this]at hs;cases hs
 have hnb:Nt E ops x=false:=by unfold Nt;rw[hc.eff];rfl
 unfold Cc at h1 h2 ⊢;rw[AqE]at h1 h2;obtain⟨⟨v,σ1⟩,hv,rfl⟩:=h1;obtain⟨⟨u,σ2⟩,hu,rfl⟩:=h2;simp only at hu ⊢;rw[Be a1]at hu;obtain rfl:=CV hnb hv;have hs:=hc.same st u σ2 hu hz
 have hx:DP E orc ops x st.fr σ2=some (v,σ2):=by
  unfold DP at hv ⊢
  have hop:∀O,CL E (orc x.dst) x.op st.fr O=EF E st.fr O x.op:=by
   intro O;have:=hc.call;unfold CL;split
   ·rename_i c e;rw[e]at this;cases this
   rfl
  have hfr:∀O,F9 (F6 E ops x) O=some:=fun O=>by funext r;simp[F9,hfz]
  cases hw:Ig ops st.fr x with
  |none=>simp[hw]at hv
  | some b=>
   cases b with
   |false=>simp only[hw,AqG,AqQ]at hv ⊢;exact⟨hv.1,trivial⟩
   | true=>
    simp only[hw,hop,hfr,Bk]at hv ⊢;rw[hv]at hs;simp only[Arg]at hs;cases he:EF E st.fr σ2 x.op with
    |none=>rw[he]at hs;cases hs
    |some r=>
     rw[he]at hs;obtain⟨r1,r2⟩:=r;simp only[Arg,AqG]at hs;obtain rfl:=Nj hc.eff he;rw[hs]
 refine⟨⟨AC st.fr y.dst u,σ2⟩,by rw[hu];rfl,?_⟩;simp only;rw[Be a3,hx];simp only[Arg,Dl st.fr v u a2]
theorem MY{orc:Option Tmp->Orc}{ops:Array Oper}{i:Nat}{y:Oper}(hi:ops[i]?=some y){l2:List Nat}{st':St}:∀(l1:List Nat) (st:St),(l1++i::l2).Pairwise (·<·) ->(∀j∈l1,∀x,ops[j]?=some x->Ks E ops x y=true\/CommY E orc ops x y j st'.fr)->Bh E orc ops (l1++i::l2) st=some st' ->∃st1,Cc E orc ops y st=some st1/\Bh E orc ops (l1++l2) st1=some st'
 |[],st,_,_,h=>by
  simp only[Aru,Bh,hi]at h;rw[AqK]at h;exact h
 | j :: l1,st,hp,hc,h0=>by
  have h:=h0;simp only[Aq7,Bh]at h;cases hj:ops[j]? with
  |none=>simp[hj]at h
  | some x=>
   simp only[hj]at h;rw[AqK]at h;obtain⟨s1,h1,h⟩:=h;rw[Aq7]at hp;obtain⟨s2,h2,h⟩:=MY hi l1 s1 (List.Pairwise.of_cons hp) (fun k hk=>hc k (Arn _ hk)) h
   have:∃st3,Cc E orc ops y st=some st3/\Cc E orc ops x st3=some s2:=by
    rcases hc j Aq4 x hj with hcb|hcy
    ·exact Js hcb h1 h2
    refine VD hcy (fun z hz=>?_) h1 h2;cases z with
    |tmp t=>
     refine(Hf (j::(l1++i::l2)) st st' (fun k hk o ho=>hcy.keep t hz k o ?_ ho) h0).symm;rcases Aq9.1 hk with rfl|hk
     ·exact AqT _
     exact AtF (Arf hp hk)
    |_=>rfl
   obtain⟨s3,h3,h4⟩:=this;refine⟨s3,h3,?_⟩;simp only[Aq7,Bh,hj,h4,ArL];exact h
def KA(E:Env)(o:Oper):Bool:=match o.op with
 |.call c=>QT E c
 |_=>false
def Abr(ops:Array Oper)(ts:List Nat)(j:Nat):Operand->Bool
 |.tmp t=>ts.contains t&&(List.range ops.size).all fun k=>k<j||(match ops[k]? with
  |some o=>o.dst != some t
  |none=>true)
 |_=>true
def AbF(E:Env)(ops:Array Oper)(T:List (List Nat))(i0:Nat)(dy ts:List Nat):Bool :=
 (List.range ops.size).all fun i=>(List.range i).all fun j=>(T.getD i []).contains j||(match ops[j]?,ops[i]? with
  |some x,some y=>Ks E ops x y||(i==i0&&dy.contains j&&x.apart ops y&&!O2 E x.op&&AcT x.op&&KA E y&&x.op.operands.toList.all (Abr ops ts j))
  |_,_=>false)
def AkC(E:Env)(n:Nat)(fr:Fr)(σ0 σ1:Ac)(l:List Oper):List Nat->Prop
 |[]=>True
 |j::js=>(match l[j]? with
  |some x=>(KB E (evL n fr) σ0 x.op).map (·.1)=(KB E (evL n fr) σ1 x.op).map (·.1)
  |none=>True)/\AkC E n fr σ0 σ1 l js
theorem AcU{n:Nat}{fr:Fr}{σ0 σ1:Ac}{l:List Oper}:∀{js:List Nat},AkC E n fr σ0 σ1 l js->∀j∈js,∀x,l[j]?=some x->(KB E (evL n fr) σ0 x.op).map (·.1)=(KB E (evL n fr) σ1 x.op).map (·.1)
 | k::js,h,j,hj,x,hx=>by
  rcases Aq9.1 hj with rfl|hj
  ·have:=h.1;rw[hx]at this;exact this
  exact AcU h.2 j hj x hx
theorem AaT{t:Nat}{f f':FuncId}{a a':List AV}{r r':AV×Ac}(h:R6 [(t,f,a,O,r)] (some t) f' a' O'=some r'):O'=O/\r'=r:=by
 simp only[R6,Aro]at h;split at h
 ·rename_i hh;cases h;exact⟨hh.2.2,rfl⟩
 cases h
theorem Ef:∀(ts:List Nat) (l:Fr) (t:Nat),t∈ts->look (keep ts l) t=look l t:=by
 intro ts l t ht
 induction ts with
 |nil=>cases ht
 | cons s ts ih=>
  show(if t=s then look l s else look (keep ts l) t)=_;by_cases e:t=s
  ·rw[AqJ e,e]
  rw[AqI e];exact ih ((Aq9.1 ht).resolve_left e)
theorem NA(hE:E.Ok)(hP:E.P.follows .mixedOrders=true){m n id:Nat}{l:List Oper}(T:List (List Nat))(hok1:F3 l.toArray T=true)(i0:Nat)(dy ts:List Nat)(hok2:AbF E l.toArray T i0 dy ts=true){fr fr':Fr}{K:CX}(hw:MC E m K) (h:∃fz t f a σ0 r σ1,(l[i0]?).bind (·.dst)=some t/\AkC E n fr' σ0 σ1 l dy/\H3 E.toBase (HX fz [(t,f,a,σ0,r,σ1)])/\Ib E (HX fz [(t,f,a,σ0,r,σ1)]) true n l ts (fr,O)=some (fr',O')) (hk:K .normal ⟨Ah n fr',O'⟩):Run E m (.region id l.toArray true) ⟨Ah n fr,O⟩ K:=by
 obtain⟨fz,t,f,a,σ0,r,σ1,hdst,hdyn,hO,h⟩:=h;simp only[Ib,AqK,AqG,AqQ]at h;obtain⟨⟨fr1,σ2⟩,h1,rfl,rfl⟩:=h;have hsteps:=FV (E:=E) (ops:=l.toArray) 0 l fr fr1 O σ2 (by simp) h1;rw[<-ArQ]at hsteps;intro hcm ac w g hr Q hq;refine Ik (JN hcm) (wp_region_any hP ?_);have hsm:SameMem w { w with drawn:=w.drawn+1 }:=⟨rfl,rfl,rfl,rfl⟩;refine J9 hE hO hok1 (st':=⟨Ah n fr1,σ2⟩) ?_ l.toArray.size (List.range l.length) _ ⟨Ah n fr,O⟩ ac _ g (by simp) Ar1 (by simp) ?_ ?_ hsteps (JU hr hsm) ?_
 ·intro i his l1 l2 st hp hT hst;have hi:l.toArray[i]?=some l.toArray[i]:=Aq2 his;refine MY hi l1 st hp (fun j hj x hx=>?_) hst
  have hji:j<i:=by
   rw[Ark]at hp;exact hp.2.2 j hj i Aq4
  have h1':=A6 (A6 hok2 his) hji;simp only[Art,AqX]at h1';rcases h1' with h1'|h1'
  ·exact(hT j hj h1').elim
  simp only[hx,hi,Art,AqZ,ArO,AqX,Ar9]at h1';rcases h1' with h1'|⟨⟨⟨⟨⟨⟨e1,e2⟩,e3⟩,e4⟩,e5⟩,e6⟩,e7⟩
  ·exact .inl h1'
  refine .inr ⟨e3,e4,e5,fun u hu k o hjk hko=>?_,fun st2 u σ3 hval hz=>?_⟩
  ·have:=AqW.1 e7 _ (by simpa using hu);simp only[Abr,AqZ]at this;have h2:=A6 this.2 (AqS.1 hko).1;rw[hko]at h2;simp only[Art,Aq1,AsU]at h2;rcases h2 with h2|h2
   ·omega
   exact h2
  subst e1;have hx':l[j]?=some x:=by simpa using hx
  have hd:l.toArray[i].dst=some t:=by
   have:l[i]?=some l.toArray[i]:=by simp
   rw[this]at hdst;exact hdst
  have hst2:st2.O=σ0/\σ3=σ1\/st2.O=σ3:=by
   unfold DP at hval;cases hwn:Ig l.toArray st2.fr l.toArray[i]with
   |none=>rw[hwn]at hval;cases hval
   | some b=>
    cases b with
    |false=>rw[hwn]at hval;cases hval;exact .inr rfl
    | true=>
     rw[hwn]at hval;simp only at hval
     have hfz:F6 E l.toArray l.toArray[i]=false:=by
      unfold KA at e6;unfold F6;split
      ·split
       ·rename_i ee;rw[ee]at e6;cases e6
       ·rename_i ee;rw[ee]at e6;cases e6
       rfl
      rfl
     have hfr:F9 (F6 E l.toArray l.toArray[i]) st2.O=some:=by rw[hfz];funext q;simp[F9]
     rw[hfr,Bk]at hval;unfold KA at e6;unfold CL at hval;split at e6
     case h_2=>cases e6
     rename_i c ec;simp only[ec]at hval;split at hval
     ·rename_i bi eb;unfold QT at e6;rw[eb]at e6;cases e6
     rw[AqJ e6]at hval;obtain⟨_,_,hval⟩:=Vm hval;rw[hd]at hval;have hval':R6 [(t,f,a,σ0,r,σ1)] (some t) _ _ st2.O=some (u,σ3):=hval;obtain⟨q1,q2⟩:=AaT hval';cases q2;exact .inl ⟨q1,rfl⟩
  rcases hst2 with⟨q1,q2⟩|q
  ·have hdj:=AcU hdyn j e2 x hx'
   have hev:∀O,EF E st2.fr O x.op=KB E (evL n (keep ts fr1)) O x.op:=by
    intro O;rw[<-CG,<-SZ];refine N6 fun z hz'=>?_
    rw[hz z hz'];cases z with
    |tmp u=>
     have:=AqW.1 e7 _ (by simpa using hz');simp only[Abr,AqZ,AqX]at this;rw[CG,CG];show(if u<n then look fr1 u else .junk)=if u<n then look (keep ts fr1) u else .junk
     rw[Ef ts fr1 u this.1]
    |_=>rfl
   rw[hev,hev,q1,q2];exact hdj
  rw[q]
 ·intro j;rw[ArD];by_cases h:j<l.length<;>simp[Array.getD,h]
 ·intro k hk hkn;exact(hkn (ArD.2 (by simpa using hk))).elim
 intro a' w' g' hr' he hg;exact hq _ _ _ _ _ (hw _ _ (D0 _ _ _ _ _) hk) hr' ((Evo.same hsm).trans (he.of_gle hg))
theorem AcJ(hE:E.Ok)(hP:E.P.follows .mixedOrders=true){m n id:Nat}{l:List Oper}(T:List (List Nat))(hok1:F3 l.toArray T=true)(i0:Nat)(dy ts:List Nat)(hok2:AbF E l.toArray T i0 dy ts=true){fr fr':Fr}{K:CX} (h:∃fz t f a σ0 r σ1,(l[i0]?).bind (·.dst)=some t/\AkC E n fr' σ0 σ1 l dy/\H3 E.toBase (HX fz [(t,f,a,σ0,r,σ1)])/\Ib E (HX fz [(t,f,a,σ0,r,σ1)]) true n l ts (fr,O)=some (fr',O')) {y:Code} (hk:Run E m y ⟨Ah n fr',O'⟩ K):Run E m (.seq (.region id l.toArray true) y) ⟨Ah n fr,O⟩ K :=
 HM (NA hE hP T hok1 i0 dy ts hok2 EK h hk)
attribute [go_sem] AkC
end Go.Rv
