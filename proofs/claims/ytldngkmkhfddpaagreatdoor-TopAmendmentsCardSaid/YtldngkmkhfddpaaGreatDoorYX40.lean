/-
  Part 40.
-/
import Derived.Test.YtldngkmkhfddpaaGreatDoorYX39
namespace Go.Rv
open Go.RowKit
set_option linter.unusedVariables false
set_option linter.unusedSimpArgs false
variable{O O':Ac}
variable {E:Env}
theorem WZ{orc:Option Tmp->Orc}{ops:Array Oper}{o:Oper}{fr:List AV}{x:AV}(hf:ED E ops o=true)(h:Dz E orc ops o fr O=some (x,O')):O'=O/\∀ρ,Dz E orc ops o fr ρ=some (x,ρ):=by
 refine⟨CH (by unfold Nl;rw[hf];simp) h,fun ρ=>?_⟩;unfold Dz at h ⊢;split at h
 ·rw[hf]at h ⊢;have e:∀O,Fl true O=I9 O:=fun O=>by funext r;simp[Fl]
  rw[e]at h ⊢
  have e2:∀O,Ca E (orc o.dst) o.op fr O=DX E fr O o.op:=by
   intro O;rcases Dn hf with⟨t,n,l,h⟩|⟨s,d,x,h,_⟩<;>rw[h]<;>rfl
  rw[e2]at h ⊢;exact RR _ (Dn hf) h
 ·cases h;rfl
 cases h
inductive SepW(E:Env)(orc:Option Tmp->Orc)(ops:Array Oper)(x y:Oper)(frF:List AV):Prop
  |old (h:SepZ E orc ops x y frF)
  |fzX (h:ED E ops x=true)
  |fzY (h:ED E ops y=true)
  |freeY (h:Afv E orc ops y frF)
  |freeX (h:Afv E orc ops x frF)
theorem OK{orc:Option Tmp->Orc}{ops:Array Oper}{x y:Oper}{st st1 st2:St}(hap:x.apart ops y=true)(hc:SepW E orc ops x y st.fr) (h1:Bw E orc ops x st=some st1) (h2:Bw E orc ops y st1=some st2):∃st3,Bw E orc ops y st=some st3/\Bw E orc ops x st3=some st2:=by
 have key:ED E ops x=true\/ED E ops y=true->∃st3,Bw E orc ops y st=some st3/\Bw E orc ops x st3=some st2:=by
  intro hf;obtain⟨a1,a2,a3⟩:=Oper.apart_spec hap;unfold Bw at h1 h2 ⊢;rw[Ao5]at h1 h2;obtain⟨⟨v,σ1⟩,hv,rfl⟩:=h1;obtain⟨⟨u,σ2⟩,hu,rfl⟩:=h2;simp only at hu ⊢;rw[AG a1]at hu;rcases hf with hf|hf
  ·obtain⟨rfl,hall⟩:=WZ hf hv;refine⟨⟨Ay st.fr y.dst u,σ2⟩,by rw[hu];rfl,?_⟩;simp only;rw[AG a3,hall];simp only[ApG,CD st.fr v u a2]
  obtain⟨rfl,hall⟩:=WZ hf hu;refine⟨⟨Ay st.fr y.dst u,st.O⟩,by rw[hall];rfl,?_⟩;simp only;rw[AG a3,hv];simp only[ApG,CD st.fr v u a2]
 cases hc with
 |old h=>exact Vr hap h h1 h2
 |fzX h=>exact key (.inl h)
 |fzY h=>exact key (.inr h)
 |freeY hfree=>
  obtain⟨a1,a2,a3⟩:=Oper.apart_spec hap;unfold Bw at h1 h2 ⊢;rw[Ao5]at h1 h2;obtain⟨⟨v,σ1⟩,hv,rfl⟩:=h1;obtain⟨⟨u,σ2⟩,hu,rfl⟩:=h2;simp only at hu ⊢;rw[AG a1]at hu;obtain⟨rfl,hall⟩:=hfree _ _ _ hu;refine⟨⟨Ay st.fr y.dst u,st.O⟩,by rw[hall];rfl,?_⟩;simp only;rw[AG a3,hv];simp only[ApG,CD st.fr v u a2]
 |freeX hfree=>
  obtain⟨a1,a2,a3⟩:=Oper.apart_spec hap;unfold Bw at h1 h2 ⊢;rw[Ao5]at h1 h2;obtain⟨⟨v,σ1⟩,hv,rfl⟩:=h1;obtain⟨⟨u,σ2⟩,hu,rfl⟩:=h2;simp only at hu ⊢;rw[AG a1]at hu;obtain⟨rfl,hall⟩:=hfree _ _ _ hv;refine⟨⟨Ay st.fr y.dst u,σ2⟩,by rw[hu];rfl,?_⟩;simp only;rw[AG a3,hall];simp only[ApG,CD st.fr v u a2]
def Afz(ops:Array Oper)(ns ts:List Nat)(j:Nat)(x:Oper):Bool:=match Aay x.op with
 |some p=>ns.contains p&&D6 ops ts (fun k=>decide (k<j)) p
 |none=>false
theorem LN{orc:Option Tmp->Orc}{ops:Array Oper}{i:Nat}{y:Oper}(hi:ops[i]?=some y){l2:List Nat}{st':St}:∀(l1:List Nat) (st:St),(∀m1 j m2,l1=m1++j::m2->∀x,ops[j]?=some x->J9 E ops x y=true\/x.apart ops y=true/\∀st,AK E orc ops ((j::m2)++i::l2) st=some st'->SepW E orc ops x y st.fr)->AK E orc ops (l1++i::l2) st=some st' ->∃st1,Bw E orc ops y st=some st1/\AK E orc ops (l1++l2) st1=some st'
 |[],st,_,h=>by
  simp only[ApR,AK,hi]at h;rw[Apa]at h;exact h
 | j::l1,st,hc,h0=>by
  have h:=h0;simp only[Apv,AK]at h;cases hj:ops[j]? with
  |none=>simp[hj]at h
  | some x=>
   simp only[hj]at h;rw[Apa]at h;obtain⟨s1,h1,h⟩:=h;obtain⟨s2,h2,h⟩:=LN hi l1 s1 (fun m1 k m2 e=>hc (j::m1) k m2 (by rw[e];rfl)) h
   have:∃st3,Bw E orc ops y st=some st3/\Bw E orc ops x st3=some s2:=by
    rcases hc [] j l1 rfl x hj with hcb|⟨hap,hcy⟩
    ·exact H2 hcb h1 h2
    exact OK hap (hcy st h0) h1 h2
   obtain⟨s3,h3,h4⟩:=this;refine⟨s3,h3,?_⟩;simp only[Apv,AK,hj,h4,Ap4];exact h
def AbH(E:Env)(ops:Array Oper)(T:List (List Nat))(ps xs ws:List (Nat×Nat))(ns ts:List Nat):Bool :=
 (List.range ops.size).all fun i=>(List.range i).all fun j=>(T.getD i []).contains j||(match ops[j]?,ops[i]? with
  |some x,some y=>J9 E ops x y||(x.apart ops y&&(Ah0 E ops T ps ts j i x y||Ah9 E ops T ps xs ts i x y||Ah8 ops T ps ts i y||Ah3 E ops ps xs ts j x y||AlV ops T ps ws ts j i x y||ED E ops x||ED E ops y||AdS ops T ns ts i y||Afz ops ns ts j x))
  |_,_=>false)
theorem XJ(hE:E.Ok)(hP:E.P.follows .mixedOrders=true){m n id:Nat}{l:List Oper}(T:List (List Nat))(hok1:EX l.toArray T=true)(ps xs ws:List (Nat×Nat))(ns ts:List Nat)(hok2:AbH E l.toArray T ps xs ws ns ts=true){fr fr':Fr}{K:CO}(hw:Lm E m K) (hps:O0 n fr' ps) (hws:Mf n fr' ws) (hns:NsL n fr' ns) (h:∃lz m,He E.toBase (I6 lz m)/\XOk m xs/\Hq E (I6 lz m) true n l ts (fr,O)=some (fr',O')) (hk:K .normal ⟨Ai n fr',O'⟩):Run E m (.region id l.toArray true) ⟨Ai n fr,O⟩ K:=by
 obtain⟨lz,mz,hO,hX,h⟩:=h;simp only[Hq,Apa,Ao7,Apf]at h;obtain⟨⟨fr1,σ2⟩,h1,rfl,rfl⟩:=h;have hsteps:=EC (E:=E) (ops:=l.toArray) 0 l fr fr1 O σ2 (by simp) h1;rw[<-Ap9]at hsteps;intro hcm ac w g hr Q hq;refine Hr (Iu hcm) (wp_region_any hP ?_);have hsm:SameMem w { w with drawn:=w.drawn+1 }:=⟨rfl,rfl,rfl,rfl⟩
 have hval:∀t a,ts.contains t=true->NQ ps t=some a->HQ (ev (Ai n fr1) (.tmp t))=some a:=by
  intro t a ht ha;have:=KD hps ha;rw[CN]
  have e:evL n (keep ts fr1) (.tmp t)=evL n fr1 (.tmp t):=by
   show(if t<n then look (keep ts fr1) t else .junk)=if t<n then look fr1 t else .junk
   rw[D5 ts fr1 t (Apo.1 ht)]
  rw[e]at this;exact this
 have hvalW:∀t a,ts.contains t=true->NQ ws t=some a->Li (ev (Ai n fr1) (.tmp t)) a:=by
  intro t a ht ha;have:=Mh hws ha;rw[CN]
  have e:evL n (keep ts fr1) (.tmp t)=evL n fr1 (.tmp t):=by
   show(if t<n then look (keep ts fr1) t else .junk)=if t<n then look fr1 t else .junk
   rw[D5 ts fr1 t (Apo.1 ht)]
  rw[e]at this;exact this
 refine HC hE hO hok1 (st':=⟨Ai n fr1,σ2⟩) ?_ l.toArray.size (List.range l.length) _ ⟨Ai n fr,O⟩ ac _ g (by simp) Aqj (by simp) ?_ ?_ hsteps (HS hr hsm) ?_
 ·intro i his l1 l2 st hp hT hst;have hi:l.toArray[i]?=some l.toArray[i]:=Apr his;refine LN hi l1 st (fun m1 j m2 e x hx=>?_) hst;have hj:j∈l1:=by rw[e];simp
  have hji:j<i:=by
   rw[ApI]at hp;exact hp.2.2 j hj i Apu
  have h1':=As (As hok2 his) hji;simp only[ApN,Apo]at h1';rcases h1' with h1'|h1'
  ·exact(hT j hj h1').elim
  simp only[hx,hi,ApN,Apj]at h1';rcases h1' with h1'|⟨h1',h2'⟩
  ·exact .inl h1'
  refine .inr ⟨h1',fun st3 h3=>?_⟩;have hst3:∀t,(∀k∈((j::m2)++i::l2),∀o,l.toArray[k]?=some o->o.dst≠some t)->ev st3.fr (.tmp t)=ev (Ai n fr1) (.tmp t):=fun t hk=>(EE _ _ _ hk h3).symm
  have hpw:((j::m2)++i::l2).Pairwise (·<·):=by
   rw[e,Ap6]at hp;exact(ApI.1 hp).2.1
  have hge:∀k∈((j::m2)++i::l2),j<=k:=by
   intro k hk;rw[Apv]at hpw hk;rcases Apx.1 hk with rfl|hk
   ·exact Apm _
   exact ArM (ApB hpw hk)
  have hnT:∀k∈((j::m2)++i::l2),¬(k∈T.getD i []/\k<i):=by
   rintro k hk ⟨q1,q2⟩;rcases Aps.1 hk with hk|hk
   ·exact hT k (by rw[e];simp only[Aps];exact .inr hk) q1
   rcases Apx.1 hk with rfl|hk
   ·omega
   have:=ApB (ApI.1 hpw).2.1 hk;omega
  have hstill:∀(ok:Nat->Bool) t,D6 l.toArray ts ok t=true->(∀k∈((j::m2)++i::l2),ok k=false)->ts.contains t=true/\ev st3.fr (.tmp t)=ev (Ai n fr1) (.tmp t):=by
   intro ok t h hno;simp only[D6,Apj]at h;refine⟨h.1,hst3 t fun k hk o hko=>?_⟩;have h2:=As h.2 (Apl.1 hko).1;rw[hno k hk,hko]at h2;simpa using h2
  have hq0:∀q,D6 l.toArray ts (fun k=>(T.getD i []).contains k&&decide (k<i)) q=true->ts.contains q=true/\ev st3.fr (.tmp q)=ev (Ai n fr1) (.tmp q):=fun q s1=>hstill _ q s1 (fun k hk=>by
   have:=hnT k hk;simp only[AqE,ApA];by_cases hm:k∈T.getD i []
   ·exact .inr fun h=>this ⟨hm,h⟩
   exact .inl (by simpa using hm))
  rcases h2' with h2'|h2'
  case inr=>
   unfold Afz at h2';split at h2'
   case h_2=>cases h2'
   rename_i p hfp;simp only[Apj]at h2'
   obtain⟨c1,c2⟩:=hstill _ p h2'.2 (fun k hk=>by
    have:=hge k hk;simp only[ApA];omega)
   refine .freeX (Uv hfp ?_);rw[c2];have hn:=QP hns (Apo.1 h2'.1);rw[CN]
   have e:evL n (keep ts fr1) (.tmp p)=evL n fr1 (.tmp p):=by
    show(if p<n then look (keep ts fr1) p else .junk)=if p<n then look fr1 p else .junk
    rw[D5 ts fr1 p (Apo.1 c1)]
   rw[e]at hn;exact hn
  rcases h2' with h2'|h2'
  case inr=>
   unfold AdS at h2';split at h2'
   case h_2=>cases h2'
   rename_i p hfp;simp only[Apj]at h2';obtain⟨c1,c2⟩:=hq0 p h2'.2;refine .freeY (Uv hfp ?_);rw[c2];have hn:=QP hns (Apo.1 h2'.1);rw[CN]
   have e:evL n (keep ts fr1) (.tmp p)=evL n fr1 (.tmp p):=by
    show(if p<n then look (keep ts fr1) p else .junk)=if p<n then look fr1 p else .junk
    rw[D5 ts fr1 p (Apo.1 c1)]
   rw[e]at hn;exact hn
  rcases h2' with h2'|h2'
  case inr=>exact .fzY h2'
  rcases h2' with h2'|h2'
  case inr=>exact .fzX h2'
  refine .old ?_;rcases h2' with h2'|h2'
  case inr=>
   unfold AlV at h2';split at h2'
   case h_2=>cases h2'
   rename_i p q hp' hq';split at h2'
   case h_2=>cases h2'
   rename_i a d ha hd;simp only[Apj,Are]at h2';obtain⟨⟨s1,s2⟩,s3⟩:=h2'
   obtain⟨c1,c2⟩:=hstill _ p s2 (fun k hk=>by
    have:=hge k hk;simp only[ApA];omega)
   obtain⟨c3,c4⟩:=hq0 q s3;exact .appY p a q d hp' (by rw[c2];exact hval p a c1 ha) hq' (by rw[c4];exact hvalW q d c3 hd) s1
  refine .old ?_;rcases h2' with h2'|h2'
  case inr=>
   unfold Ah3 at h2';split at h2'
   case h_2=>cases h2'
   rename_i p t hp' ht';split at h2'
   case h_1=>cases h2'
   rename_i a ha;simp only[Apj,Apo]at h2';obtain⟨⟨s1,s2⟩,s3⟩:=h2'
   obtain⟨c1,c2⟩:=hstill _ p s1 (fun k hk=>by
    have:=hge k hk;simp only[ApA];omega)
   exact .callY p a hp' (by rw[c2];exact hval p a c1 ha) fun O σ1 v hv=>IF s2 ht' hX s3 hv
  rcases h2' with h2'|h2'
  case inr=>
   unfold Ah8 at h2';split at h2'
   case h_2=>cases h2'
   rename_i p f hop;split at h2'
   case h_1=>cases h2'
   rename_i a ha;obtain⟨c1,c2⟩:=hq0 p h2';exact .fa _ p f a hop (by rw[c2];exact hval p a c1 ha)
  rcases h2' with h2'|h2'
  case inr=>
   unfold Ah9 at h2';split at h2'
   case h_2=>cases h2'
   rename_i p t hp' ht';split at h2'
   case h_1=>cases h2'
   rename_i a ha;simp only[Apj,Apo]at h2';obtain⟨⟨s1,s2⟩,s3⟩:=h2';obtain⟨c1,c2⟩:=hq0 p s1;exact .call p a hp' (by rw[c2];exact hval p a c1 ha) fun O σ1 v hv=>IF s2 ht' hX s3 hv
  unfold Ah0 at h2';split at h2'
  case h_1=>cases h2'
  rename_i q hq';split at h2'
  case h_1=>cases h2'
  rename_i b hb;simp only[Apj,ApN,Aqq]at h2';obtain⟨s1,h2'⟩:=h2';obtain⟨c1,c2⟩:=hq0 q s1;have hbq:HQ (ev st3.fr (.tmp q))=some b:=by rw[c2];exact hval q b c1 hb
  rcases h2' with⟨h4,h5⟩|h4
  ·exact .build q b h4 h5 hq' hbq
  split at h4
  case h_1=>cases h4
  rename_i p hp';split at h4
  case h_1=>cases h4
  rename_i a ha;simp only[Apj,Are]at h4
  obtain⟨c3,c4⟩:=hstill _ p h4.2 (fun k hk=>by
   have:=hge k hk;simp only[ApA];omega)
  exact .look p q a b hp' hq' (by rw[c4];exact hval p a c3 ha) hbq h4.1
 ·intro j;rw[ApS];by_cases h:j<l.length<;>simp[Array.getD,h]
 ·intro k hk hkn;exact(hkn (ApS.2 (by simpa using hk))).elim
 intro a' w' g' hr' he hg;exact hq _ _ _ _ _ (hw _ _ (Dh _ _ _ _ _) hk) hr' ((Evo.same hsm).trans (he.of_gle hg))
theorem TZ(hE:E.Ok)(hP:E.P.follows .mixedOrders=true){m n id:Nat}{l:List Oper}(T:List (List Nat))(hok1:EX l.toArray T=true)(ps xs ws:List (Nat×Nat))(ns ts:List Nat)(hok2:AbH E l.toArray T ps xs ws ns ts=true){fr fr':Fr}{K:CO} (hps:O0 n fr' ps) (hws:Mf n fr' ws) (hns:NsL n fr' ns) (h:∃lz m,He E.toBase (I6 lz m)/\XOk m xs/\Hq E (I6 lz m) true n l ts (fr,O)=some (fr',O')) {y:Code} (hk:Run E m y ⟨Ai n fr',O'⟩ K):Run E m (.seq (.region id l.toArray true) y) ⟨Ai n fr,O⟩ K :=
 Hh (XJ hE hP T hok1 ps xs ws ns ts hok2 Ea hps hws hns h hk)
theorem AdY{sel:List Nat}{x y:Nat×AV}{xs ys:Fr}:wkT sel (x::xs) (y::ys)=((x.1=y.1/\wk1 sel x.2 y.2)/\wkT sel xs ys):=rfl
theorem AeR{sel:List Nat}{y y':Bool}{N N':Nat}{l l':Fr}{ps ps':Array Tmp}{a a' b b':Code}:Ue sel (.lp y N l ps a b) (.lp y' N' l' ps' a' b')=(y=y'/\N=N'/\ps=ps'/\a=a'/\b=b'/\wkT sel l l'):=rfl
attribute [go_sem] AdY AeR
end Go.Rv
